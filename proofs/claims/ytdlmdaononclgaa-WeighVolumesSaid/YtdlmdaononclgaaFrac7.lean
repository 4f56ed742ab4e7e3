import Derived.Test.YtdlmdaononclgaaFrac6
import Derived.Test.YtdlmdaononclgaaFrac4
/- Fractions, 7: the reference: both, Add, Sub, Mul, Div. -/
namespace Go.Proofs.Ytdlmdaononclgaa
open Go.RowKit
set_option linter.unusedVariables false
set_option linter.unusedSimpArgs false

set_option maxHeartbeats 1000000 in
theorem refboth_no (an ad bn bd : Int) (h : ¬ (okF an ad = true ∧ okF bn bd = true)) (a0 : -9223372036854775808 ≤ an) (a1 : an ≤ 9223372036854775807) (a2 : -9223372036854775808 ≤ ad) (a3 : ad ≤ 9223372036854775807) (b0 : -9223372036854775808 ≤ bn) (b1 : bn ≤ 9223372036854775807) (b2 : -9223372036854775808 ≤ bd) (b3 : bd ≤ 9223372036854775807) (w : World) :
    Calls Try.prog 81 #[.agg #[.int .i64 an, .int .i64 ad], .agg #[.int .i64 bn, .int .i64 bd]] w fun e w' => e = .returned (.int .i64 10) ∧ Below w.heap.size w w' := by
  have H := Lib.hid h; clear h
  cases h1 : okF an ad with
  | false =>
    go_enter Try.func81, Try.ntmps81
    go_wp2_with ((go_at_call 51; (with_reducible refine (refCheck_no h1 a0 a1 a2 a3 _).mono ?_); rintro e w1 ⟨rfl, hb1⟩; obtain ⟨hc1, hf1⟩ := bcell hb1; have hz1 := hb1.size; (try simp only [World.size_alloc, World.size_setCell, World.size_drew, hsz_drewN] at hz1); have z0 : w.heap.size < w1.heap.size := (by omega); have z1 : w.heap.size + 1 < w1.heap.size := (by omega)))
    go_ret
    exact ⟨rfl, by repeat' (first | (with_reducible exact Below.refl _ _) | (with_reducible assumption) | (refine below_step (by assumption) ?_ ?_) | (with_reducible refine below_drewN ?_ _) | (with_reducible refine Below.drew ?_) | (with_reducible refine Below.alloc ?_ ?_ _) | (with_reducible refine Below.setCell ?_ ?_ _) | go_size)⟩
  | true =>
    cases h2 : okF bn bd with
    | false =>
      go_enter Try.func81, Try.ntmps81
      go_wp2_with (first | (go_at_call 51; (with_reducible refine (refCheck_yes h1 a0 a1 a2 a3 _).mono ?_); rintro e w1 ⟨rfl, hb1⟩; obtain ⟨hc1, hf1⟩ := bcell hb1; have hz1 := hb1.size; (try simp only [World.size_alloc, World.size_setCell, World.size_drew, hsz_drewN] at hz1); have z0 : w.heap.size < w1.heap.size := (by omega); have z1 : w.heap.size + 1 < w1.heap.size := (by omega)) | (go_at_call 51; (with_reducible refine (refCheck_no h2 b0 b1 b2 b3 _).mono ?_); rintro e w1 ⟨rfl, hb1⟩; obtain ⟨hc1, hf1⟩ := bcell hb1; have hz1 := hb1.size; (try simp only [World.size_alloc, World.size_setCell, World.size_drew, hsz_drewN] at hz1); have z0 : w.heap.size < w1.heap.size := (by omega); have z1 : w.heap.size + 1 < w1.heap.size := (by omega)))
      go_ret
      exact ⟨rfl, by repeat' (first | (with_reducible exact Below.refl _ _) | (with_reducible assumption) | (refine below_step (by assumption) ?_ ?_) | (with_reducible refine below_drewN ?_ _) | (with_reducible refine Below.drew ?_) | (with_reducible refine Below.alloc ?_ ?_ _) | (with_reducible refine Below.setCell ?_ ?_ _) | go_size)⟩
    | true => exact absurd ⟨h1, h2⟩ H.out

set_option maxHeartbeats 1000000 in
theorem refboth_yes {an ad bn bd : Int} (h1 : okF an ad = true) (h2 : okF bn bd = true) (a0 : -9223372036854775808 ≤ an) (a1 : an ≤ 9223372036854775807) (a2 : -9223372036854775808 ≤ ad) (a3 : ad ≤ 9223372036854775807) (b0 : -9223372036854775808 ≤ bn) (b1 : bn ≤ 9223372036854775807) (b2 : -9223372036854775808 ≤ bd) (b3 : bd ≤ 9223372036854775807) (w : World) :
    Calls Try.prog 81 #[.agg #[.int .i64 an, .int .i64 ad], .agg #[.int .i64 bn, .int .i64 bd]] w fun e w' => e = .returned (.int .i64 0) ∧ Below w.heap.size w w' := by
  go_enter Try.func81, Try.ntmps81
  go_wp2_with (first | (go_at_call 51; (with_reducible refine (refCheck_yes h1 a0 a1 a2 a3 _).mono ?_); rintro e w1 ⟨rfl, hb1⟩; obtain ⟨hc1, hf1⟩ := bcell hb1; have hz1 := hb1.size; (try simp only [World.size_alloc, World.size_setCell, World.size_drew, hsz_drewN] at hz1); have z0 : w.heap.size < w1.heap.size := (by omega); have z1 : w.heap.size + 1 < w1.heap.size := (by omega)) | (go_at_call 51; (with_reducible refine (refCheck_yes h2 b0 b1 b2 b3 _).mono ?_); rintro e w1 ⟨rfl, hb1⟩; obtain ⟨hc1, hf1⟩ := bcell hb1; have hz1 := hb1.size; (try simp only [World.size_alloc, World.size_setCell, World.size_drew, hsz_drewN] at hz1); have z0 : w.heap.size < w1.heap.size := (by omega); have z1 : w.heap.size + 1 < w1.heap.size := (by omega)))
  go_ret
  exact ⟨rfl, by repeat' (first | (with_reducible exact Below.refl _ _) | (with_reducible assumption) | (refine below_step (by assumption) ?_ ?_) | (with_reducible refine below_drewN ?_ _) | (with_reducible refine Below.drew ?_) | (with_reducible refine Below.alloc ?_ ?_ _) | (with_reducible refine Below.setCell ?_ ?_ _) | go_size)⟩

set_option maxHeartbeats 1000000 in
theorem refAdd_any (an ad bn bd : Int) (a0 : -9223372036854775808 ≤ an) (a1 : an ≤ 9223372036854775807) (a2 : -9223372036854775808 ≤ ad) (a3 : ad ≤ 9223372036854775807) (b0 : -9223372036854775808 ≤ bn) (b1 : bn ≤ 9223372036854775807) (b2 : -9223372036854775808 ≤ bd) (b3 : bd ≤ 9223372036854775807) (w : World) :
    Calls Try.prog 37 #[.agg #[.int .i64 an, .int .i64 ad], .agg #[.int .i64 bn, .int .i64 bd]] w fun e w' => e = .returned (.tuple #[.agg #[.int .i64 (bothR an ad bn bd (an * bd + bn * ad) (ad * bd)).1, .int .i64 (bothR an ad bn bd (an * bd + bn * ad) (ad * bd)).2.1], .int .i64 (bothR an ad bn bd (an * bd + bn * ad) (ad * bd)).2.2]) ∧ Below w.heap.size w w' := by
  by_cases h : okF an ad = true ∧ okF bn bd = true
  · obtain ⟨h1, h2⟩ := h
    have e : bothR an ad bn bd (an * bd + bn * ad) (ad * bd) = mkR (an * bd + bn * ad) (ad * bd) := by simp [bothR, h1, h2]
    rw [e]
    clear e
    obtain ⟨⟨p0, p1⟩, ⟨p2, p3⟩, ⟨p4, p5⟩, ⟨p6, p7⟩, ⟨p8, p9⟩⟩ := bd_all h1 h2
    go_enter Try.func37, Try.ntmps37
    go_wp2_with (first | (go_at_call 81; (with_reducible refine (refboth_yes h1 h2 a0 a1 a2 a3 b0 b1 b2 b3 _).mono ?_); rintro e w1 ⟨rfl, hb1⟩; obtain ⟨hc1, hf1⟩ := bcell hb1; have hz1 := hb1.size; (try simp only [World.size_alloc, World.size_setCell, World.size_drew, hsz_drewN] at hz1); have z0 : w.heap.size < w1.heap.size := (by omega); have z1 : w.heap.size + 1 < w1.heap.size := (by omega); have z2 : w.heap.size + 2 < w1.heap.size := (by omega)) | (go_at_call 35; (with_reducible refine (refmake_any _ _ (by omega) (by omega) (by omega) (by omega) _).mono ?_); rintro e w1 ⟨rfl, hb1⟩; obtain ⟨hc1, hf1⟩ := bcell hb1; have hz1 := hb1.size; (try simp only [World.size_alloc, World.size_setCell, World.size_drew, hsz_drewN] at hz1); have z0 : w.heap.size < w1.heap.size := (by omega); have z1 : w.heap.size + 1 < w1.heap.size := (by omega); have z2 : w.heap.size + 2 < w1.heap.size := (by omega)))
    refine bodyPost_ret (by simp [results, Try.results37, go_sem, *]; try rfl) rfl ⟨?_, ?_⟩
    · rfl
    · repeat' (first | (with_reducible exact Below.refl _ _) | (with_reducible assumption) | (refine below_step (by assumption) ?_ ?_) | (with_reducible refine below_drewN ?_ _) | (with_reducible refine Below.drew ?_) | (with_reducible refine Below.alloc ?_ ?_ _) | (with_reducible refine Below.setCell ?_ ?_ _) | go_size)
  · have e : bothR an ad bn bd (an * bd + bn * ad) (ad * bd) = (0, 0, 10) := by simp only [bothR, if_neg h]
    rw [e]
    clear e
    have H := Lib.hid h; clear h
    go_enter Try.func37, Try.ntmps37
    go_wp2_with (first | (go_at_call 81; (with_reducible refine (refboth_no _ _ _ _ H.out a0 a1 a2 a3 b0 b1 b2 b3 _).mono ?_); rintro e w1 ⟨rfl, hb1⟩; obtain ⟨hc1, hf1⟩ := bcell hb1; have hz1 := hb1.size; (try simp only [World.size_alloc, World.size_setCell, World.size_drew, hsz_drewN] at hz1); have z0 : w.heap.size < w1.heap.size := (by omega); have z1 : w.heap.size + 1 < w1.heap.size := (by omega); have z2 : w.heap.size + 2 < w1.heap.size := (by omega)))
    refine bodyPost_ret (by simp [results, Try.results37, go_sem, *]; try rfl) rfl ⟨?_, ?_⟩
    · rfl
    · repeat' (first | (with_reducible exact Below.refl _ _) | (with_reducible assumption) | (refine below_step (by assumption) ?_ ?_) | (with_reducible refine below_drewN ?_ _) | (with_reducible refine Below.drew ?_) | (with_reducible refine Below.alloc ?_ ?_ _) | (with_reducible refine Below.setCell ?_ ?_ _) | go_size)

set_option maxHeartbeats 1000000 in
theorem refSub_any (an ad bn bd : Int) (a0 : -9223372036854775808 ≤ an) (a1 : an ≤ 9223372036854775807) (a2 : -9223372036854775808 ≤ ad) (a3 : ad ≤ 9223372036854775807) (b0 : -9223372036854775808 ≤ bn) (b1 : bn ≤ 9223372036854775807) (b2 : -9223372036854775808 ≤ bd) (b3 : bd ≤ 9223372036854775807) (w : World) :
    Calls Try.prog 39 #[.agg #[.int .i64 an, .int .i64 ad], .agg #[.int .i64 bn, .int .i64 bd]] w fun e w' => e = .returned (.tuple #[.agg #[.int .i64 (bothR an ad bn bd (an * bd - bn * ad) (ad * bd)).1, .int .i64 (bothR an ad bn bd (an * bd - bn * ad) (ad * bd)).2.1], .int .i64 (bothR an ad bn bd (an * bd - bn * ad) (ad * bd)).2.2]) ∧ Below w.heap.size w w' := by
  by_cases h : okF an ad = true ∧ okF bn bd = true
  · obtain ⟨h1, h2⟩ := h
    have e : bothR an ad bn bd (an * bd - bn * ad) (ad * bd) = mkR (an * bd - bn * ad) (ad * bd) := by simp [bothR, h1, h2]
    rw [e]
    clear e
    obtain ⟨⟨p0, p1⟩, ⟨p2, p3⟩, ⟨p4, p5⟩, ⟨p6, p7⟩, ⟨p8, p9⟩⟩ := bd_all h1 h2
    go_enter Try.func39, Try.ntmps39
    go_wp2_with (first | (go_at_call 81; (with_reducible refine (refboth_yes h1 h2 a0 a1 a2 a3 b0 b1 b2 b3 _).mono ?_); rintro e w1 ⟨rfl, hb1⟩; obtain ⟨hc1, hf1⟩ := bcell hb1; have hz1 := hb1.size; (try simp only [World.size_alloc, World.size_setCell, World.size_drew, hsz_drewN] at hz1); have z0 : w.heap.size < w1.heap.size := (by omega); have z1 : w.heap.size + 1 < w1.heap.size := (by omega); have z2 : w.heap.size + 2 < w1.heap.size := (by omega)) | (go_at_call 35; (with_reducible refine (refmake_any _ _ (by omega) (by omega) (by omega) (by omega) _).mono ?_); rintro e w1 ⟨rfl, hb1⟩; obtain ⟨hc1, hf1⟩ := bcell hb1; have hz1 := hb1.size; (try simp only [World.size_alloc, World.size_setCell, World.size_drew, hsz_drewN] at hz1); have z0 : w.heap.size < w1.heap.size := (by omega); have z1 : w.heap.size + 1 < w1.heap.size := (by omega); have z2 : w.heap.size + 2 < w1.heap.size := (by omega)))
    refine bodyPost_ret (by simp [results, Try.results39, go_sem, *]; try rfl) rfl ⟨?_, ?_⟩
    · rfl
    · repeat' (first | (with_reducible exact Below.refl _ _) | (with_reducible assumption) | (refine below_step (by assumption) ?_ ?_) | (with_reducible refine below_drewN ?_ _) | (with_reducible refine Below.drew ?_) | (with_reducible refine Below.alloc ?_ ?_ _) | (with_reducible refine Below.setCell ?_ ?_ _) | go_size)
  · have e : bothR an ad bn bd (an * bd - bn * ad) (ad * bd) = (0, 0, 10) := by simp only [bothR, if_neg h]
    rw [e]
    clear e
    have H := Lib.hid h; clear h
    go_enter Try.func39, Try.ntmps39
    go_wp2_with (first | (go_at_call 81; (with_reducible refine (refboth_no _ _ _ _ H.out a0 a1 a2 a3 b0 b1 b2 b3 _).mono ?_); rintro e w1 ⟨rfl, hb1⟩; obtain ⟨hc1, hf1⟩ := bcell hb1; have hz1 := hb1.size; (try simp only [World.size_alloc, World.size_setCell, World.size_drew, hsz_drewN] at hz1); have z0 : w.heap.size < w1.heap.size := (by omega); have z1 : w.heap.size + 1 < w1.heap.size := (by omega); have z2 : w.heap.size + 2 < w1.heap.size := (by omega)))
    refine bodyPost_ret (by simp [results, Try.results39, go_sem, *]; try rfl) rfl ⟨?_, ?_⟩
    · rfl
    · repeat' (first | (with_reducible exact Below.refl _ _) | (with_reducible assumption) | (refine below_step (by assumption) ?_ ?_) | (with_reducible refine below_drewN ?_ _) | (with_reducible refine Below.drew ?_) | (with_reducible refine Below.alloc ?_ ?_ _) | (with_reducible refine Below.setCell ?_ ?_ _) | go_size)

set_option maxHeartbeats 1000000 in
theorem refMul_any (an ad bn bd : Int) (a0 : -9223372036854775808 ≤ an) (a1 : an ≤ 9223372036854775807) (a2 : -9223372036854775808 ≤ ad) (a3 : ad ≤ 9223372036854775807) (b0 : -9223372036854775808 ≤ bn) (b1 : bn ≤ 9223372036854775807) (b2 : -9223372036854775808 ≤ bd) (b3 : bd ≤ 9223372036854775807) (w : World) :
    Calls Try.prog 41 #[.agg #[.int .i64 an, .int .i64 ad], .agg #[.int .i64 bn, .int .i64 bd]] w fun e w' => e = .returned (.tuple #[.agg #[.int .i64 (bothR an ad bn bd (an * bn) (ad * bd)).1, .int .i64 (bothR an ad bn bd (an * bn) (ad * bd)).2.1], .int .i64 (bothR an ad bn bd (an * bn) (ad * bd)).2.2]) ∧ Below w.heap.size w w' := by
  by_cases h : okF an ad = true ∧ okF bn bd = true
  · obtain ⟨h1, h2⟩ := h
    have e : bothR an ad bn bd (an * bn) (ad * bd) = mkR (an * bn) (ad * bd) := by simp [bothR, h1, h2]
    rw [e]
    clear e
    obtain ⟨⟨p0, p1⟩, ⟨p2, p3⟩, ⟨p4, p5⟩, ⟨p6, p7⟩, ⟨p8, p9⟩⟩ := bd_all h1 h2
    go_enter Try.func41, Try.ntmps41
    go_wp2_with (first | (go_at_call 81; (with_reducible refine (refboth_yes h1 h2 a0 a1 a2 a3 b0 b1 b2 b3 _).mono ?_); rintro e w1 ⟨rfl, hb1⟩; obtain ⟨hc1, hf1⟩ := bcell hb1; have hz1 := hb1.size; (try simp only [World.size_alloc, World.size_setCell, World.size_drew, hsz_drewN] at hz1); have z0 : w.heap.size < w1.heap.size := (by omega); have z1 : w.heap.size + 1 < w1.heap.size := (by omega); have z2 : w.heap.size + 2 < w1.heap.size := (by omega)) | (go_at_call 35; (with_reducible refine (refmake_any _ _ (by omega) (by omega) (by omega) (by omega) _).mono ?_); rintro e w1 ⟨rfl, hb1⟩; obtain ⟨hc1, hf1⟩ := bcell hb1; have hz1 := hb1.size; (try simp only [World.size_alloc, World.size_setCell, World.size_drew, hsz_drewN] at hz1); have z0 : w.heap.size < w1.heap.size := (by omega); have z1 : w.heap.size + 1 < w1.heap.size := (by omega); have z2 : w.heap.size + 2 < w1.heap.size := (by omega)))
    refine bodyPost_ret (by simp [results, Try.results41, go_sem, *]; try rfl) rfl ⟨?_, ?_⟩
    · rfl
    · repeat' (first | (with_reducible exact Below.refl _ _) | (with_reducible assumption) | (refine below_step (by assumption) ?_ ?_) | (with_reducible refine below_drewN ?_ _) | (with_reducible refine Below.drew ?_) | (with_reducible refine Below.alloc ?_ ?_ _) | (with_reducible refine Below.setCell ?_ ?_ _) | go_size)
  · have e : bothR an ad bn bd (an * bn) (ad * bd) = (0, 0, 10) := by simp only [bothR, if_neg h]
    rw [e]
    clear e
    have H := Lib.hid h; clear h
    go_enter Try.func41, Try.ntmps41
    go_wp2_with (first | (go_at_call 81; (with_reducible refine (refboth_no _ _ _ _ H.out a0 a1 a2 a3 b0 b1 b2 b3 _).mono ?_); rintro e w1 ⟨rfl, hb1⟩; obtain ⟨hc1, hf1⟩ := bcell hb1; have hz1 := hb1.size; (try simp only [World.size_alloc, World.size_setCell, World.size_drew, hsz_drewN] at hz1); have z0 : w.heap.size < w1.heap.size := (by omega); have z1 : w.heap.size + 1 < w1.heap.size := (by omega); have z2 : w.heap.size + 2 < w1.heap.size := (by omega)))
    refine bodyPost_ret (by simp [results, Try.results41, go_sem, *]; try rfl) rfl ⟨?_, ?_⟩
    · rfl
    · repeat' (first | (with_reducible exact Below.refl _ _) | (with_reducible assumption) | (refine below_step (by assumption) ?_ ?_) | (with_reducible refine below_drewN ?_ _) | (with_reducible refine Below.drew ?_) | (with_reducible refine Below.alloc ?_ ?_ _) | (with_reducible refine Below.setCell ?_ ?_ _) | go_size)

set_option maxHeartbeats 1000000 in
theorem refDiv_any (an ad bn bd : Int) (a0 : -9223372036854775808 ≤ an) (a1 : an ≤ 9223372036854775807) (a2 : -9223372036854775808 ≤ ad) (a3 : ad ≤ 9223372036854775807) (b0 : -9223372036854775808 ≤ bn) (b1 : bn ≤ 9223372036854775807) (b2 : -9223372036854775808 ≤ bd) (b3 : bd ≤ 9223372036854775807) (w : World) :
    Calls Try.prog 43 #[.agg #[.int .i64 an, .int .i64 ad], .agg #[.int .i64 bn, .int .i64 bd]] w fun e w' => e = .returned (.tuple #[.agg #[.int .i64 (bothR an ad bn bd (an * bd) (ad * bn)).1, .int .i64 (bothR an ad bn bd (an * bd) (ad * bn)).2.1], .int .i64 (bothR an ad bn bd (an * bd) (ad * bn)).2.2]) ∧ Below w.heap.size w w' := by
  by_cases h : okF an ad = true ∧ okF bn bd = true
  · obtain ⟨h1, h2⟩ := h
    have e : bothR an ad bn bd (an * bd) (ad * bn) = mkR (an * bd) (ad * bn) := by simp [bothR, h1, h2]
    rw [e]
    clear e
    obtain ⟨⟨p0, p1⟩, ⟨p2, p3⟩, ⟨p4, p5⟩, ⟨p6, p7⟩, ⟨p8, p9⟩⟩ := bd_all h1 h2
    go_enter Try.func43, Try.ntmps43
    go_wp2_with (first | (go_at_call 81; (with_reducible refine (refboth_yes h1 h2 a0 a1 a2 a3 b0 b1 b2 b3 _).mono ?_); rintro e w1 ⟨rfl, hb1⟩; obtain ⟨hc1, hf1⟩ := bcell hb1; have hz1 := hb1.size; (try simp only [World.size_alloc, World.size_setCell, World.size_drew, hsz_drewN] at hz1); have z0 : w.heap.size < w1.heap.size := (by omega); have z1 : w.heap.size + 1 < w1.heap.size := (by omega); have z2 : w.heap.size + 2 < w1.heap.size := (by omega)) | (go_at_call 35; (with_reducible refine (refmake_any _ _ (by omega) (by omega) (by omega) (by omega) _).mono ?_); rintro e w1 ⟨rfl, hb1⟩; obtain ⟨hc1, hf1⟩ := bcell hb1; have hz1 := hb1.size; (try simp only [World.size_alloc, World.size_setCell, World.size_drew, hsz_drewN] at hz1); have z0 : w.heap.size < w1.heap.size := (by omega); have z1 : w.heap.size + 1 < w1.heap.size := (by omega); have z2 : w.heap.size + 2 < w1.heap.size := (by omega)))
    refine bodyPost_ret (by simp [results, Try.results43, go_sem, *]; try rfl) rfl ⟨?_, ?_⟩
    · rfl
    · repeat' (first | (with_reducible exact Below.refl _ _) | (with_reducible assumption) | (refine below_step (by assumption) ?_ ?_) | (with_reducible refine below_drewN ?_ _) | (with_reducible refine Below.drew ?_) | (with_reducible refine Below.alloc ?_ ?_ _) | (with_reducible refine Below.setCell ?_ ?_ _) | go_size)
  · have e : bothR an ad bn bd (an * bd) (ad * bn) = (0, 0, 10) := by simp only [bothR, if_neg h]
    rw [e]
    clear e
    have H := Lib.hid h; clear h
    go_enter Try.func43, Try.ntmps43
    go_wp2_with (first | (go_at_call 81; (with_reducible refine (refboth_no _ _ _ _ H.out a0 a1 a2 a3 b0 b1 b2 b3 _).mono ?_); rintro e w1 ⟨rfl, hb1⟩; obtain ⟨hc1, hf1⟩ := bcell hb1; have hz1 := hb1.size; (try simp only [World.size_alloc, World.size_setCell, World.size_drew, hsz_drewN] at hz1); have z0 : w.heap.size < w1.heap.size := (by omega); have z1 : w.heap.size + 1 < w1.heap.size := (by omega); have z2 : w.heap.size + 2 < w1.heap.size := (by omega)))
    refine bodyPost_ret (by simp [results, Try.results43, go_sem, *]; try rfl) rfl ⟨?_, ?_⟩
    · rfl
    · repeat' (first | (with_reducible exact Below.refl _ _) | (with_reducible assumption) | (refine below_step (by assumption) ?_ ?_) | (with_reducible refine below_drewN ?_ _) | (with_reducible refine Below.drew ?_) | (with_reducible refine Below.alloc ?_ ?_ _) | (with_reducible refine Below.setCell ?_ ?_ _) | go_size)

end Go.Proofs.Ytdlmdaononclgaa
