import Derived.Test.YtdlmdaononclgaaArea3
/- Centre. -/
namespace Go.Proofs.Ytdlmdaononclgaa
open Go.RowKit
set_option linter.unusedVariables false
set_option linter.unusedSimpArgs false

section
variable (xs ys : List Int) (A : Option Addr) (c : Nat) (A2 : Option Addr) (c2 : Nat) (hc : xs.length ≤ c) (hm : c ≤ 9223372036854775807) (hc2 : ys.length ≤ c2) (hm2 : c2 ≤ 9223372036854775807)
include hc hm hc2 hm2

theorem Area_is {a e0 : Int} (hr : areaR xs ys = (a, e0)) (w : World) {B : Nat} (hB : B ≤ w.heap.size) (h : RD w B A (ints xs)) (h2 : RD w B A2 (ints ys)) : Calls Try.prog 20 #[.slice A xs.length c, .slice A2 ys.length c2] w fun e w' => e = .returned (.tuple #[.int .i64 a, .int .i64 e0]) ∧ Below w.heap.size w w' := by
  have := Area_any xs ys A c A2 c2 hc hm hc2 hm2 w (h.more hB) (h2.more hB)
  rw [hr] at this
  exact this

set_option maxHeartbeats 2000000 in
theorem Centre_any (w : World) (h : RD w w.heap.size A (ints xs)) (h2 : RD w w.heap.size A2 (ints ys)) : Calls Try.prog 21 #[.slice A xs.length c, .slice A2 ys.length c2] w fun e w' => e = .returned (.tuple #[.agg #[.int .i64 (cenR xs ys).1, .int .i64 (cenR xs ys).2.1], .int .i64 (cenR xs ys).2.2]) ∧ Below w.heap.size w w' := by
  have hk : ∀ W, Below w.heap.size w W → RD W w.heap.size A (ints xs) ∧ RD W w.heap.size A2 (ints ys) := fun W hb => ⟨h.keep hb (Nat.le_refl _), h2.keep hb (Nat.le_refl _)⟩
  have HK := Lib.hid hk
  clear hk h h2
  rcases ordE_cases xs ys with he | he | he
  · obtain ⟨hP, hl, hy⟩ := ordE_zero he
    by_cases hz : dotK (weightsZ xs) ys xs.length = 0
    · have hr : areaR xs ys = (0, 0) := by simp [areaR, he, hz]
      have HR : Hid (cenR xs ys = (0, 0, 3)) := by show _ = _; simp [cenR, he, hz]
      have HQ := Lib.hid hr
      clear hr he hy hl hz
      go_enter Try.func21, Try.ntmps21
      go_wp2_with (first | (go_at_call 20; refine (Area_is xs ys A c A2 c2 hc hm hc2 hm2 HQ.out _ (by simp) (HK.out _ (by repeat' (first | (with_reducible exact Below.refl _ _) | (with_reducible assumption) | (refine below_step (by assumption) ?_ ?_) | (with_reducible refine below_drewN ?_ _) | (with_reducible refine Below.drew ?_) | (with_reducible refine Below.alloc ?_ ?_ _) | (with_reducible refine Below.setCell ?_ ?_ _) | go_size))).1 (HK.out _ (by repeat' (first | (with_reducible exact Below.refl _ _) | (with_reducible assumption) | (refine below_step (by assumption) ?_ ?_) | (with_reducible refine below_drewN ?_ _) | (with_reducible refine Below.drew ?_) | (with_reducible refine Below.alloc ?_ ?_ _) | (with_reducible refine Below.setCell ?_ ?_ _) | go_size))).2).mono ?_; rintro e w1 ⟨rfl, hb1⟩; obtain ⟨hc1, hf1⟩ := bcell hb1; have hz1 := hb1.size; simp only [World.size_alloc] at hz1; have z0 : w.heap.size < w1.heap.size := (by omega)))
      refine bodyPost_ret (by simp [results, Try.results21, go_sem, *]; try rfl) rfl ⟨?_, ?_⟩
      · rw [HR.out]
      · repeat' (first | (with_reducible exact Below.refl _ _) | (with_reducible assumption) | (refine below_step (by assumption) ?_ ?_) | (with_reducible refine below_drewN ?_ _) | (with_reducible refine Below.drew ?_) | (with_reducible refine Below.alloc ?_ ?_ _) | (with_reducible refine Below.setCell ?_ ?_ _) | go_size)
    · obtain ⟨a, ha⟩ : ∃ a, dotK (weightsZ xs) ys xs.length = a := ⟨_, rfl⟩
      obtain ⟨b0, b1⟩ := area_bd he
      obtain ⟨m0, m1⟩ := mom_bd (about := 0) he (by omega) (by omega)
      rw [ha] at b0 b1 hz
      have hr : areaR xs ys = (a, 0) := by simp [areaR, he, ha]
      have HR : Hid (cenR xs ys = mkR (dotK (weightsZ xs) (momL xs ys 0 xs.length) xs.length) a) := by show _ = _; simp [cenR, he, ha, hz]
      have HQ := Lib.hid hr
      have hmo : ∀ W, Below w.heap.size w W → Calls Try.prog 66 #[.slice A xs.length c, .slice A2 ys.length c2, .int .i64 0] W fun e w' => e = .returned (.int .i64 (dotK (weightsZ xs) (momL xs ys 0 xs.length) xs.length)) ∧ Below W.heap.size W w' := fun W hb =>
        moment_any xs ys A c A2 c2 0 hP hc hm W ((HK.out W hb).1.more hb.size) hl hc2 hy ((HK.out W hb).2.more hb.size) (by omega) (by omega)
      have HM := Lib.hid hmo
      have ez : (a == 0) = false := by simpa using hz
      have HZ := Lib.hid hz
      clear hr he hy hl hmo ha hz
      go_enter Try.func21, Try.ntmps21
      go_wp2_with (first | (go_at_call 20; refine (Area_is xs ys A c A2 c2 hc hm hc2 hm2 HQ.out _ (by simp) (HK.out _ (by repeat' (first | (with_reducible exact Below.refl _ _) | (with_reducible assumption) | (refine below_step (by assumption) ?_ ?_) | (with_reducible refine below_drewN ?_ _) | (with_reducible refine Below.drew ?_) | (with_reducible refine Below.alloc ?_ ?_ _) | (with_reducible refine Below.setCell ?_ ?_ _) | go_size))).1 (HK.out _ (by repeat' (first | (with_reducible exact Below.refl _ _) | (with_reducible assumption) | (refine below_step (by assumption) ?_ ?_) | (with_reducible refine below_drewN ?_ _) | (with_reducible refine Below.drew ?_) | (with_reducible refine Below.alloc ?_ ?_ _) | (with_reducible refine Below.setCell ?_ ?_ _) | go_size))).2).mono ?_; rintro e w1 ⟨rfl, hb1⟩; obtain ⟨hc1, hf1⟩ := bcell hb1; have hz1 := hb1.size; simp only [World.size_alloc] at hz1; have z0 : w.heap.size < w1.heap.size := (by omega)) | (go_at_call 66; refine (HM.out _ (by repeat' (first | (with_reducible exact Below.refl _ _) | (with_reducible assumption) | (refine below_step (by assumption) ?_ ?_) | (with_reducible refine below_drewN ?_ _) | (with_reducible refine Below.drew ?_) | (with_reducible refine Below.alloc ?_ ?_ _) | (with_reducible refine Below.setCell ?_ ?_ _) | go_size))).mono ?_; rintro e w2 ⟨rfl, hb2⟩; obtain ⟨hc2', hf2'⟩ := bcell hb2; have hz2 := hb2.size; have z1 : w.heap.size < w2.heap.size := (by omega)) | (go_at_call 22; refine (make_any _ _ (by omega) (by omega) (by omega) (by omega) _).mono ?_; rintro e w3 ⟨rfl, hb3⟩; obtain ⟨hc3', hf3'⟩ := bcell hb3; have hz3 := hb3.size; have z2 : w.heap.size < w3.heap.size := (by omega)))
      refine bodyPost_ret (by simp [results, Try.results21, go_sem, *]; try rfl) rfl ⟨?_, ?_⟩
      · rw [HR.out]
      · repeat' (first | (with_reducible exact Below.refl _ _) | (with_reducible assumption) | (refine below_step (by assumption) ?_ ?_) | (with_reducible refine below_drewN ?_ _) | (with_reducible refine Below.drew ?_) | (with_reducible refine Below.alloc ?_ ?_ _) | (with_reducible refine Below.setCell ?_ ?_ _) | go_size)
  · have hr : areaR xs ys = (0, 1) := by simp [areaR, he]
    have HR : Hid (cenR xs ys = (0, 0, 1)) := by show _ = _; simp [cenR, he]
    have HQ := Lib.hid hr
    clear hr he
    go_enter Try.func21, Try.ntmps21
    go_wp2_with (first | (go_at_call 20; refine (Area_is xs ys A c A2 c2 hc hm hc2 hm2 HQ.out _ (by simp) (HK.out _ (by repeat' (first | (with_reducible exact Below.refl _ _) | (with_reducible assumption) | (refine below_step (by assumption) ?_ ?_) | (with_reducible refine below_drewN ?_ _) | (with_reducible refine Below.drew ?_) | (with_reducible refine Below.alloc ?_ ?_ _) | (with_reducible refine Below.setCell ?_ ?_ _) | go_size))).1 (HK.out _ (by repeat' (first | (with_reducible exact Below.refl _ _) | (with_reducible assumption) | (refine below_step (by assumption) ?_ ?_) | (with_reducible refine below_drewN ?_ _) | (with_reducible refine Below.drew ?_) | (with_reducible refine Below.alloc ?_ ?_ _) | (with_reducible refine Below.setCell ?_ ?_ _) | go_size))).2).mono ?_; rintro e w1 ⟨rfl, hb1⟩; obtain ⟨hc1, hf1⟩ := bcell hb1; have hz1 := hb1.size; simp only [World.size_alloc] at hz1; have z0 : w.heap.size < w1.heap.size := (by omega)))
    refine bodyPost_ret (by simp [results, Try.results21, go_sem, *]; try rfl) rfl ⟨?_, ?_⟩
    · rw [HR.out]
    · repeat' (first | (with_reducible exact Below.refl _ _) | (with_reducible assumption) | (refine below_step (by assumption) ?_ ?_) | (with_reducible refine below_drewN ?_ _) | (with_reducible refine Below.drew ?_) | (with_reducible refine Below.alloc ?_ ?_ _) | (with_reducible refine Below.setCell ?_ ?_ _) | go_size)
  · have hr : areaR xs ys = (0, 12) := by simp [areaR, he]
    have HR : Hid (cenR xs ys = (0, 0, 12)) := by show _ = _; simp [cenR, he]
    have HQ := Lib.hid hr
    clear hr he
    go_enter Try.func21, Try.ntmps21
    go_wp2_with (first | (go_at_call 20; refine (Area_is xs ys A c A2 c2 hc hm hc2 hm2 HQ.out _ (by simp) (HK.out _ (by repeat' (first | (with_reducible exact Below.refl _ _) | (with_reducible assumption) | (refine below_step (by assumption) ?_ ?_) | (with_reducible refine below_drewN ?_ _) | (with_reducible refine Below.drew ?_) | (with_reducible refine Below.alloc ?_ ?_ _) | (with_reducible refine Below.setCell ?_ ?_ _) | go_size))).1 (HK.out _ (by repeat' (first | (with_reducible exact Below.refl _ _) | (with_reducible assumption) | (refine below_step (by assumption) ?_ ?_) | (with_reducible refine below_drewN ?_ _) | (with_reducible refine Below.drew ?_) | (with_reducible refine Below.alloc ?_ ?_ _) | (with_reducible refine Below.setCell ?_ ?_ _) | go_size))).2).mono ?_; rintro e w1 ⟨rfl, hb1⟩; obtain ⟨hc1, hf1⟩ := bcell hb1; have hz1 := hb1.size; simp only [World.size_alloc] at hz1; have z0 : w.heap.size < w1.heap.size := (by omega)))
    refine bodyPost_ret (by simp [results, Try.results21, go_sem, *]; try rfl) rfl ⟨?_, ?_⟩
    · rw [HR.out]
    · repeat' (first | (with_reducible exact Below.refl _ _) | (with_reducible assumption) | (refine below_step (by assumption) ?_ ?_) | (with_reducible refine below_drewN ?_ _) | (with_reducible refine Below.drew ?_) | (with_reducible refine Below.alloc ?_ ?_ _) | (with_reducible refine Below.setCell ?_ ?_ _) | go_size)
end

end Go.Proofs.Ytdlmdaononclgaa
