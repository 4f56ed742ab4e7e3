import Derived.Test.YtdlmdaononclgaaFrac2
/- Fractions, 5: rounded, Floor, Ceil, Round, Check, Cmp. -/
namespace Go.Proofs.Ytdlmdaononclgaa
open Go.RowKit
set_option linter.unusedVariables false
set_option linter.unusedSimpArgs false

/-- what rounded answers. -/
def rndR (n d x : Int) : Int × Int := if okF n d = true then (x, 0) else (0, 10)
theorem okF_bd' {n d : Int} (h : okF n d = true) : -1000000000 ≤ n ∧ n ≤ 1000000000 ∧ 1 ≤ d ∧ d ≤ 1000000000 := by
  simp only [okF, Bool.and_eq_true] at h
  have h1 := within_true h.1.1
  have h2 := within_true h.1.2
  omega

set_option maxHeartbeats 1000000 in
theorem rounded_any (g : Nat) (eg : ∀ args w, (callFunc g args).run Try.prog w = .ok (.enter g args) w) (n d x : Int)
    (hof : okF n d = true → ∀ W, Calls Try.prog g #[.agg #[.int .i64 n, .int .i64 d]] W fun e w' => e = .returned (.int .i64 x) ∧ Below W.heap.size W w')
    (a0 : -9223372036854775808 ≤ n) (a1 : n ≤ 9223372036854775807) (a2 : -9223372036854775808 ≤ d) (a3 : d ≤ 9223372036854775807) (w : World) :
    Calls Try.prog 85 #[.agg #[.int .i64 n, .int .i64 d], .func (.func g) #[] #[]] w fun e w' => e = .returned (.tuple #[.int .i64 (rndR n d x).1, .int .i64 (rndR n d x).2]) ∧ Below w.heap.size w w' := by
  have H := Lib.hid hof; clear hof
  cases h1 : okF n d with
  | false =>
    go_enter Try.func85, Try.ntmps85
    go_wp2_with ((go_at_call 90; (with_reducible refine (isFrac_is h1 a0 a1 a2 a3 _).mono ?_); rintro e w1 ⟨rfl, hb1⟩; obtain ⟨hc1, hf1⟩ := bcell hb1; have hz1 := hb1.size; (try simp only [World.size_alloc, World.size_setCell, World.size_drew, hsz_drewN] at hz1); have z0 : w.heap.size < w1.heap.size := (by omega)))
    go_ret2
    exact ⟨by simp [rndR, h1], by repeat' (first | (with_reducible exact Below.refl _ _) | (with_reducible assumption) | (refine below_step (by assumption) ?_ ?_) | (with_reducible refine below_drewN ?_ _) | (with_reducible refine Below.drew ?_) | (with_reducible refine Below.alloc ?_ ?_ _) | (with_reducible refine Below.setCell ?_ ?_ _) | go_size)⟩
  | true =>
    have H2 := Lib.hid (H.out h1); clear H
    go_enter Try.func85, Try.ntmps85
    go_wp2_with (first | (go_at_call 90; (with_reducible refine (isFrac_is h1 a0 a1 a2 a3 _).mono ?_); rintro e w1 ⟨rfl, hb1⟩; obtain ⟨hc1, hf1⟩ := bcell hb1; have hz1 := hb1.size; (try simp only [World.size_alloc, World.size_setCell, World.size_drew, hsz_drewN] at hz1); have z0 : w.heap.size < w1.heap.size := (by omega)) | (go_at_fn g; (with_reducible refine (H2.out _).mono ?_); rintro e w1 ⟨rfl, hb1⟩; obtain ⟨hc1, hf1⟩ := bcell hb1; have hz1 := hb1.size; (try simp only [World.size_alloc, World.size_setCell, World.size_drew, hsz_drewN] at hz1); have z0 : w.heap.size < w1.heap.size := (by omega)))
    go_ret2
    exact ⟨by simp [rndR, h1], by repeat' (first | (with_reducible exact Below.refl _ _) | (with_reducible assumption) | (refine below_step (by assumption) ?_ ?_) | (with_reducible refine below_drewN ?_ _) | (with_reducible refine Below.drew ?_) | (with_reducible refine Below.alloc ?_ ?_ _) | (with_reducible refine Below.setCell ?_ ?_ _) | go_size)⟩

set_option maxHeartbeats 1000000 in
theorem Check_any (n d : Int) (a0 : -9223372036854775808 ≤ n) (a1 : n ≤ 9223372036854775807) (a2 : -9223372036854775808 ≤ d) (a3 : d ≤ 9223372036854775807) (w : World) :
    Calls Try.prog 50 #[.agg #[.int .i64 n, .int .i64 d]] w fun e w' => e = .returned (.int .i64 (if okF n d = true then 0 else 10)) ∧ Below w.heap.size w w' := by
  cases h1 : okF n d with
  | false =>
    go_enter Try.func50, Try.ntmps50
    go_wp2_with ((go_at_call 90; (with_reducible refine (isFrac_is h1 a0 a1 a2 a3 _).mono ?_); rintro e w1 ⟨rfl, hb1⟩; obtain ⟨hc1, hf1⟩ := bcell hb1; have hz1 := hb1.size; (try simp only [World.size_alloc, World.size_setCell, World.size_drew, hsz_drewN] at hz1); have z0 : w.heap.size < w1.heap.size := (by omega)))
    go_ret
    exact ⟨by simp, by repeat' (first | (with_reducible exact Below.refl _ _) | (with_reducible assumption) | (refine below_step (by assumption) ?_ ?_) | (with_reducible refine below_drewN ?_ _) | (with_reducible refine Below.drew ?_) | (with_reducible refine Below.alloc ?_ ?_ _) | (with_reducible refine Below.setCell ?_ ?_ _) | go_size)⟩
  | true =>
    go_enter Try.func50, Try.ntmps50
    go_wp2_with ((go_at_call 90; (with_reducible refine (isFrac_is h1 a0 a1 a2 a3 _).mono ?_); rintro e w1 ⟨rfl, hb1⟩; obtain ⟨hc1, hf1⟩ := bcell hb1; have hz1 := hb1.size; (try simp only [World.size_alloc, World.size_setCell, World.size_drew, hsz_drewN] at hz1); have z0 : w.heap.size < w1.heap.size := (by omega)))
    go_ret
    exact ⟨by simp, by repeat' (first | (with_reducible exact Below.refl _ _) | (with_reducible assumption) | (refine below_step (by assumption) ?_ ?_) | (with_reducible refine below_drewN ?_ _) | (with_reducible refine Below.drew ?_) | (with_reducible refine Below.alloc ?_ ?_ _) | (with_reducible refine Below.setCell ?_ ?_ _) | go_size)⟩

theorem ofFloor (n d : Int) (h : okF n d = true) (W : World) : Calls Try.prog 86 #[.agg #[.int .i64 n, .int .i64 d]] W fun e w' => e = .returned (.int .i64 (n / d)) ∧ Below W.heap.size W w' := by
  obtain ⟨a0, a1, a2, a3⟩ := okF_bd' h
  have e1 := ediv_bd n d (by omega) (by omega) (by omega)
  have e2 := ediv_bd (-n) d (by omega) (by omega) (by omega)
  clear h
  go_enter Try.func86, Try.ntmps86
  go_wp2_with (go_at_call 63; refine (floor_any _ _ (by omega) (by omega) (by omega) (by omega) _).mono ?_; rintro e w' ⟨rfl, rfl⟩)
  go_ret
  exact ⟨rfl, by repeat' (first | (with_reducible exact Below.refl _ _) | (with_reducible assumption) | (refine below_step (by assumption) ?_ ?_) | (with_reducible refine below_drewN ?_ _) | (with_reducible refine Below.drew ?_) | (with_reducible refine Below.alloc ?_ ?_ _) | (with_reducible refine Below.setCell ?_ ?_ _) | go_size)⟩

set_option maxHeartbeats 1000000 in
theorem Floor_any (n d : Int) (a0 : -9223372036854775808 ≤ n) (a1 : n ≤ 9223372036854775807) (a2 : -9223372036854775808 ≤ d) (a3 : d ≤ 9223372036854775807) (w : World) :
    Calls Try.prog 44 #[.agg #[.int .i64 n, .int .i64 d]] w fun e w' => e = .returned (.tuple #[.int .i64 (rndR n d (n / d)).1, .int .i64 (rndR n d (n / d)).2]) ∧ Below w.heap.size w w' := by
  have hb : ∀ W, Calls Try.prog 85 #[.agg #[.int .i64 n, .int .i64 d], .func (.func 86) #[] #[]] W _ := fun W =>
    rounded_any 86 (enters_of Try.func86 (by kernel_rfl) rfl) n d (n / d) (fun h => ofFloor n d h) a0 a1 a2 a3 W
  have H := Lib.hid hb; clear hb
  go_enter Try.func44, Try.ntmps44
  go_wp2_with ((go_at_call 85; (with_reducible refine (H.out _).mono ?_); rintro e w1 ⟨rfl, hb1⟩; obtain ⟨hc1, hf1⟩ := bcell hb1; have hz1 := hb1.size; (try simp only [World.size_alloc, World.size_setCell, World.size_drew, hsz_drewN] at hz1); have z0 : w.heap.size < w1.heap.size := (by omega)))
  go_ret2
  exact ⟨rfl, by repeat' (first | (with_reducible exact Below.refl _ _) | (with_reducible assumption) | (refine below_step (by assumption) ?_ ?_) | (with_reducible refine below_drewN ?_ _) | (with_reducible refine Below.drew ?_) | (with_reducible refine Below.alloc ?_ ?_ _) | (with_reducible refine Below.setCell ?_ ?_ _) | go_size)⟩

theorem ofCeil (n d : Int) (h : okF n d = true) (W : World) : Calls Try.prog 88 #[.agg #[.int .i64 n, .int .i64 d]] W fun e w' => e = .returned (.int .i64 (-((-n) / d))) ∧ Below W.heap.size W w' := by
  obtain ⟨a0, a1, a2, a3⟩ := okF_bd' h
  have e1 := ediv_bd n d (by omega) (by omega) (by omega)
  have e2 := ediv_bd (-n) d (by omega) (by omega) (by omega)
  clear h
  go_enter Try.func88, Try.ntmps88
  go_wp2_with (go_at_call 63; refine (floor_any _ _ (by omega) (by omega) (by omega) (by omega) _).mono ?_; rintro e w' ⟨rfl, rfl⟩)
  go_ret
  exact ⟨rfl, by repeat' (first | (with_reducible exact Below.refl _ _) | (with_reducible assumption) | (refine below_step (by assumption) ?_ ?_) | (with_reducible refine below_drewN ?_ _) | (with_reducible refine Below.drew ?_) | (with_reducible refine Below.alloc ?_ ?_ _) | (with_reducible refine Below.setCell ?_ ?_ _) | go_size)⟩

set_option maxHeartbeats 1000000 in
theorem Ceil_any (n d : Int) (a0 : -9223372036854775808 ≤ n) (a1 : n ≤ 9223372036854775807) (a2 : -9223372036854775808 ≤ d) (a3 : d ≤ 9223372036854775807) (w : World) :
    Calls Try.prog 46 #[.agg #[.int .i64 n, .int .i64 d]] w fun e w' => e = .returned (.tuple #[.int .i64 (rndR n d (-((-n) / d))).1, .int .i64 (rndR n d (-((-n) / d))).2]) ∧ Below w.heap.size w w' := by
  have hb : ∀ W, Calls Try.prog 85 #[.agg #[.int .i64 n, .int .i64 d], .func (.func 88) #[] #[]] W _ := fun W =>
    rounded_any 88 (enters_of Try.func88 (by kernel_rfl) rfl) n d (-((-n) / d)) (fun h => ofCeil n d h) a0 a1 a2 a3 W
  have H := Lib.hid hb; clear hb
  go_enter Try.func46, Try.ntmps46
  go_wp2_with ((go_at_call 85; (with_reducible refine (H.out _).mono ?_); rintro e w1 ⟨rfl, hb1⟩; obtain ⟨hc1, hf1⟩ := bcell hb1; have hz1 := hb1.size; (try simp only [World.size_alloc, World.size_setCell, World.size_drew, hsz_drewN] at hz1); have z0 : w.heap.size < w1.heap.size := (by omega)))
  go_ret2
  exact ⟨rfl, by repeat' (first | (with_reducible exact Below.refl _ _) | (with_reducible assumption) | (refine below_step (by assumption) ?_ ?_) | (with_reducible refine below_drewN ?_ _) | (with_reducible refine Below.drew ?_) | (with_reducible refine Below.alloc ?_ ?_ _) | (with_reducible refine Below.setCell ?_ ?_ _) | go_size)⟩

theorem ofRound (n d : Int) (h : okF n d = true) (W : World) : Calls Try.prog 89 #[.agg #[.int .i64 n, .int .i64 d]] W fun e w' => e = .returned (.int .i64 ((2 * n + d) / (2 * d))) ∧ Below W.heap.size W w' := by
  obtain ⟨a0, a1, a2, a3⟩ := okF_bd' h
  have e1 := ediv_bd n d (by omega) (by omega) (by omega)
  have e2 := ediv_bd (-n) d (by omega) (by omega) (by omega)
  clear h
  go_enter Try.func89, Try.ntmps89
  go_wp2_with (go_at_call 63; refine (floor_any _ _ (by omega) (by omega) (by omega) (by omega) _).mono ?_; rintro e w' ⟨rfl, rfl⟩)
  go_ret
  exact ⟨rfl, by repeat' (first | (with_reducible exact Below.refl _ _) | (with_reducible assumption) | (refine below_step (by assumption) ?_ ?_) | (with_reducible refine below_drewN ?_ _) | (with_reducible refine Below.drew ?_) | (with_reducible refine Below.alloc ?_ ?_ _) | (with_reducible refine Below.setCell ?_ ?_ _) | go_size)⟩

set_option maxHeartbeats 1000000 in
theorem Round_any (n d : Int) (a0 : -9223372036854775808 ≤ n) (a1 : n ≤ 9223372036854775807) (a2 : -9223372036854775808 ≤ d) (a3 : d ≤ 9223372036854775807) (w : World) :
    Calls Try.prog 48 #[.agg #[.int .i64 n, .int .i64 d]] w fun e w' => e = .returned (.tuple #[.int .i64 (rndR n d ((2 * n + d) / (2 * d))).1, .int .i64 (rndR n d ((2 * n + d) / (2 * d))).2]) ∧ Below w.heap.size w w' := by
  have hb : ∀ W, Calls Try.prog 85 #[.agg #[.int .i64 n, .int .i64 d], .func (.func 89) #[] #[]] W _ := fun W =>
    rounded_any 89 (enters_of Try.func89 (by kernel_rfl) rfl) n d ((2 * n + d) / (2 * d)) (fun h => ofRound n d h) a0 a1 a2 a3 W
  have H := Lib.hid hb; clear hb
  go_enter Try.func48, Try.ntmps48
  go_wp2_with ((go_at_call 85; (with_reducible refine (H.out _).mono ?_); rintro e w1 ⟨rfl, hb1⟩; obtain ⟨hc1, hf1⟩ := bcell hb1; have hz1 := hb1.size; (try simp only [World.size_alloc, World.size_setCell, World.size_drew, hsz_drewN] at hz1); have z0 : w.heap.size < w1.heap.size := (by omega)))
  go_ret2
  exact ⟨rfl, by repeat' (first | (with_reducible exact Below.refl _ _) | (with_reducible assumption) | (refine below_step (by assumption) ?_ ?_) | (with_reducible refine below_drewN ?_ _) | (with_reducible refine Below.drew ?_) | (with_reducible refine Below.alloc ?_ ?_ _) | (with_reducible refine Below.setCell ?_ ?_ _) | go_size)⟩

end Go.Proofs.Ytdlmdaononclgaa
