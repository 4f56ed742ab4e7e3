import Derived.Test.YtdlmdaononclgaaFrac6
/- Fractions, 8: the reference: Floor, Ceil, Round. -/
namespace Go.Proofs.Ytdlmdaononclgaa
open Go.RowKit
set_option linter.unusedVariables false
set_option linter.unusedSimpArgs false

set_option maxHeartbeats 1000000 in
theorem refFloor_any (n d : Int) (a0 : -9223372036854775808 ≤ n) (a1 : n ≤ 9223372036854775807) (a2 : -9223372036854775808 ≤ d) (a3 : d ≤ 9223372036854775807) (w : World) :
    Calls Try.prog 45 #[.agg #[.int .i64 n, .int .i64 d]] w fun e w' => e = .returned (.tuple #[.int .i64 (rndR n d (n / d)).1, .int .i64 (rndR n d (n / d)).2]) ∧ Below w.heap.size w w' := by
  cases h1 : okF n d with
  | false =>
    go_enter Try.func45, Try.ntmps45
    go_wp2_with ((go_at_call 51; (with_reducible refine (refCheck_no h1 a0 a1 a2 a3 _).mono ?_); rintro e w1 ⟨rfl, hb1⟩; obtain ⟨hc1, hf1⟩ := bcell hb1; have hz1 := hb1.size; (try simp only [World.size_alloc, World.size_setCell, World.size_drew, hsz_drewN] at hz1); have z0 : w.heap.size < w1.heap.size := (by omega)))
    go_ret2
    exact ⟨by simp [rndR, h1], by repeat' (first | (with_reducible exact Below.refl _ _) | (with_reducible assumption) | (refine below_step (by assumption) ?_ ?_) | (with_reducible refine below_drewN ?_ _) | (with_reducible refine Below.drew ?_) | (with_reducible refine Below.alloc ?_ ?_ _) | (with_reducible refine Below.setCell ?_ ?_ _) | go_size)⟩
  | true =>
    obtain ⟨c0, c1, c2, c3⟩ := okF_bd' h1
    have e1 := ediv_bd n d (by omega) (by omega) (by omega)
    have e2 := ediv_bd (-n) d (by omega) (by omega) (by omega)
    go_enter Try.func45, Try.ntmps45
    go_wp2_with (first | (go_at_call 51; (with_reducible refine (refCheck_yes h1 a0 a1 a2 a3 _).mono ?_); rintro e w1 ⟨rfl, hb1⟩; obtain ⟨hc1, hf1⟩ := bcell hb1; have hz1 := hb1.size; (try simp only [World.size_alloc, World.size_setCell, World.size_drew, hsz_drewN] at hz1); have z0 : w.heap.size < w1.heap.size := (by omega)) | (go_at_call 87; refine (down_any _ _ (by omega) (by omega) (by omega) (by omega) _).mono ?_; rintro e w' ⟨rfl, rfl⟩))
    go_ret2
    exact ⟨by simp [rndR, h1], by repeat' (first | (with_reducible exact Below.refl _ _) | (with_reducible assumption) | (refine below_step (by assumption) ?_ ?_) | (with_reducible refine below_drewN ?_ _) | (with_reducible refine Below.drew ?_) | (with_reducible refine Below.alloc ?_ ?_ _) | (with_reducible refine Below.setCell ?_ ?_ _) | go_size)⟩

set_option maxHeartbeats 1000000 in
theorem refCeil_any (n d : Int) (a0 : -9223372036854775808 ≤ n) (a1 : n ≤ 9223372036854775807) (a2 : -9223372036854775808 ≤ d) (a3 : d ≤ 9223372036854775807) (w : World) :
    Calls Try.prog 47 #[.agg #[.int .i64 n, .int .i64 d]] w fun e w' => e = .returned (.tuple #[.int .i64 (rndR n d (-((-n) / d))).1, .int .i64 (rndR n d (-((-n) / d))).2]) ∧ Below w.heap.size w w' := by
  cases h1 : okF n d with
  | false =>
    go_enter Try.func47, Try.ntmps47
    go_wp2_with ((go_at_call 51; (with_reducible refine (refCheck_no h1 a0 a1 a2 a3 _).mono ?_); rintro e w1 ⟨rfl, hb1⟩; obtain ⟨hc1, hf1⟩ := bcell hb1; have hz1 := hb1.size; (try simp only [World.size_alloc, World.size_setCell, World.size_drew, hsz_drewN] at hz1); have z0 : w.heap.size < w1.heap.size := (by omega)))
    go_ret2
    exact ⟨by simp [rndR, h1], by repeat' (first | (with_reducible exact Below.refl _ _) | (with_reducible assumption) | (refine below_step (by assumption) ?_ ?_) | (with_reducible refine below_drewN ?_ _) | (with_reducible refine Below.drew ?_) | (with_reducible refine Below.alloc ?_ ?_ _) | (with_reducible refine Below.setCell ?_ ?_ _) | go_size)⟩
  | true =>
    obtain ⟨c0, c1, c2, c3⟩ := okF_bd' h1
    have e1 := ediv_bd n d (by omega) (by omega) (by omega)
    have e2 := ediv_bd (-n) d (by omega) (by omega) (by omega)
    go_enter Try.func47, Try.ntmps47
    go_wp2_with (first | (go_at_call 51; (with_reducible refine (refCheck_yes h1 a0 a1 a2 a3 _).mono ?_); rintro e w1 ⟨rfl, hb1⟩; obtain ⟨hc1, hf1⟩ := bcell hb1; have hz1 := hb1.size; (try simp only [World.size_alloc, World.size_setCell, World.size_drew, hsz_drewN] at hz1); have z0 : w.heap.size < w1.heap.size := (by omega)) | (go_at_call 87; refine (down_any _ _ (by omega) (by omega) (by omega) (by omega) _).mono ?_; rintro e w' ⟨rfl, rfl⟩))
    go_ret2
    exact ⟨by simp [rndR, h1], by repeat' (first | (with_reducible exact Below.refl _ _) | (with_reducible assumption) | (refine below_step (by assumption) ?_ ?_) | (with_reducible refine below_drewN ?_ _) | (with_reducible refine Below.drew ?_) | (with_reducible refine Below.alloc ?_ ?_ _) | (with_reducible refine Below.setCell ?_ ?_ _) | go_size)⟩

set_option maxHeartbeats 1000000 in
theorem refRound_any (n d : Int) (a0 : -9223372036854775808 ≤ n) (a1 : n ≤ 9223372036854775807) (a2 : -9223372036854775808 ≤ d) (a3 : d ≤ 9223372036854775807) (w : World) :
    Calls Try.prog 49 #[.agg #[.int .i64 n, .int .i64 d]] w fun e w' => e = .returned (.tuple #[.int .i64 (rndR n d ((2 * n + d) / (2 * d))).1, .int .i64 (rndR n d ((2 * n + d) / (2 * d))).2]) ∧ Below w.heap.size w w' := by
  cases h1 : okF n d with
  | false =>
    go_enter Try.func49, Try.ntmps49
    go_wp2_with ((go_at_call 51; (with_reducible refine (refCheck_no h1 a0 a1 a2 a3 _).mono ?_); rintro e w1 ⟨rfl, hb1⟩; obtain ⟨hc1, hf1⟩ := bcell hb1; have hz1 := hb1.size; (try simp only [World.size_alloc, World.size_setCell, World.size_drew, hsz_drewN] at hz1); have z0 : w.heap.size < w1.heap.size := (by omega)))
    go_ret2
    exact ⟨by simp [rndR, h1], by repeat' (first | (with_reducible exact Below.refl _ _) | (with_reducible assumption) | (refine below_step (by assumption) ?_ ?_) | (with_reducible refine below_drewN ?_ _) | (with_reducible refine Below.drew ?_) | (with_reducible refine Below.alloc ?_ ?_ _) | (with_reducible refine Below.setCell ?_ ?_ _) | go_size)⟩
  | true =>
    obtain ⟨c0, c1, c2, c3⟩ := okF_bd' h1
    have e1 := ediv_bd n d (by omega) (by omega) (by omega)
    have e2 := ediv_bd (-n) d (by omega) (by omega) (by omega)
    go_enter Try.func49, Try.ntmps49
    go_wp2_with (first | (go_at_call 51; (with_reducible refine (refCheck_yes h1 a0 a1 a2 a3 _).mono ?_); rintro e w1 ⟨rfl, hb1⟩; obtain ⟨hc1, hf1⟩ := bcell hb1; have hz1 := hb1.size; (try simp only [World.size_alloc, World.size_setCell, World.size_drew, hsz_drewN] at hz1); have z0 : w.heap.size < w1.heap.size := (by omega)) | (go_at_call 87; refine (down_any _ _ (by omega) (by omega) (by omega) (by omega) _).mono ?_; rintro e w' ⟨rfl, rfl⟩))
    go_ret2
    exact ⟨by simp [rndR, h1], by repeat' (first | (with_reducible exact Below.refl _ _) | (with_reducible assumption) | (refine below_step (by assumption) ?_ ?_) | (with_reducible refine below_drewN ?_ _) | (with_reducible refine Below.drew ?_) | (with_reducible refine Below.alloc ?_ ?_ _) | (with_reducible refine Below.setCell ?_ ?_ _) | go_size)⟩

end Go.Proofs.Ytdlmdaononclgaa
