import Derived.Test.YtdlmdaononclgaaFrac
import Derived.Shelf.Abstract
/- Fractions, 2: both, Add, Sub, Mul, Div, Cmp, rounded, Floor, Ceil, Round, Check. -/
namespace Go.Proofs.Ytdlmdaononclgaa
open Go.RowKit
set_option linter.unusedVariables false
set_option linter.unusedSimpArgs false

theorem isFrac_is {n d : Int} {b : Bool} (h : okF n d = b) (n0 : -9223372036854775808 ≤ n) (n1 : n ≤ 9223372036854775807) (d0 : -9223372036854775808 ≤ d) (d1 : d ≤ 9223372036854775807) (w : World) :
    Calls Try.prog 90 #[.agg #[.int .i64 n, .int .i64 d]] w fun e w' => e = .returned (.bool b) ∧ Below w.heap.size w w' := by
  subst h; exact isFrac_any _ _ n0 n1 d0 d1 _

/-- what both answers, x / y being the function's. -/
def bothR (an ad bn bd x y : Int) : Int × Int × Int := if okF an ad = true ∧ okF bn bd = true then mkR x y else (0, 0, 10)

/-- the function that both is handed: x and y where both fractions are valid. -/
def Of (g : Nat) (an ad bn bd x y : Int) : Prop := okF an ad = true → okF bn bd = true → ∀ W, Calls Try.prog g #[.agg #[.int .i64 an, .int .i64 ad], .agg #[.int .i64 bn, .int .i64 bd]] W fun e w' => e = .returned (.tuple #[.int .i64 x, .int .i64 y]) ∧ Below W.heap.size W w'

set_option maxRecDepth 4000 in
set_option maxHeartbeats 1000000 in
theorem both_any (g : Nat) (eg : ∀ args w, (callFunc g args).run Try.prog w = .ok (.enter g args) w) (an ad bn bd x y : Int) (hof : Of g an ad bn bd x y)
    (a0 : -9223372036854775808 ≤ an) (a1 : an ≤ 9223372036854775807) (a2 : -9223372036854775808 ≤ ad) (a3 : ad ≤ 9223372036854775807)
    (b0 : -9223372036854775808 ≤ bn) (b1 : bn ≤ 9223372036854775807) (b2 : -9223372036854775808 ≤ bd) (b3 : bd ≤ 9223372036854775807)
    (hxy : okF an ad = true → okF bn bd = true → -9223372036854775808 ≤ x ∧ x ≤ 9223372036854775807 ∧ -9223372036854775808 ≤ y ∧ y ≤ 9223372036854775807) (w : World) :
    Calls Try.prog 79 #[.agg #[.int .i64 an, .int .i64 ad], .agg #[.int .i64 bn, .int .i64 bd], .func (.func g) #[] #[]] w fun e w' =>
      e = .returned (.tuple #[.agg #[.int .i64 (bothR an ad bn bd x y).1, .int .i64 (bothR an ad bn bd x y).2.1], .int .i64 (bothR an ad bn bd x y).2.2]) ∧ Below w.heap.size w w' := by
  have H := Lib.hid hof; clear hof
  have HX := Lib.hid hxy; clear hxy
  cases h1 : okF an ad with
  | false =>
    go_enter Try.func79, Try.ntmps79
    go_wp2_with ((go_at_call 90; (with_reducible refine (isFrac_is h1 a0 a1 a2 a3 _).mono ?_); rintro e w1 ⟨rfl, hb1⟩; obtain ⟨hc1, hf1⟩ := bcell hb1; have hz1 := hb1.size; (try simp only [World.size_alloc, World.size_setCell, World.size_drew, hsz_drewN] at hz1); have z0 : w.heap.size < w1.heap.size := (by omega); have z1 : w.heap.size + 1 < w1.heap.size := (by omega); have z2 : w.heap.size + 2 < w1.heap.size := (by omega)))
    refine bodyPost_ret (by simp [results, Try.results79, go_sem, *]; try rfl) rfl ⟨?_, ?_⟩
    · simp [bothR, h1]
    · repeat' (first | (with_reducible exact Below.refl _ _) | (with_reducible assumption) | (refine below_step (by assumption) ?_ ?_) | (with_reducible refine below_drewN ?_ _) | (with_reducible refine Below.drew ?_) | (with_reducible refine Below.alloc ?_ ?_ _) | (with_reducible refine Below.setCell ?_ ?_ _) | go_size)
  | true =>
    cases h2 : okF bn bd with
    | false =>
      go_enter Try.func79, Try.ntmps79
      go_wp2_with (first | (go_at_call 90; (with_reducible refine (isFrac_is h1 a0 a1 a2 a3 _).mono ?_); rintro e w1 ⟨rfl, hb1⟩; obtain ⟨hc1, hf1⟩ := bcell hb1; have hz1 := hb1.size; (try simp only [World.size_alloc, World.size_setCell, World.size_drew, hsz_drewN] at hz1); have z0 : w.heap.size < w1.heap.size := (by omega); have z1 : w.heap.size + 1 < w1.heap.size := (by omega); have z2 : w.heap.size + 2 < w1.heap.size := (by omega)) | (go_at_call 90; (with_reducible refine (isFrac_is h2 b0 b1 b2 b3 _).mono ?_); rintro e w1 ⟨rfl, hb1⟩; obtain ⟨hc1, hf1⟩ := bcell hb1; have hz1 := hb1.size; (try simp only [World.size_alloc, World.size_setCell, World.size_drew, hsz_drewN] at hz1); have z0 : w.heap.size < w1.heap.size := (by omega); have z1 : w.heap.size + 1 < w1.heap.size := (by omega); have z2 : w.heap.size + 2 < w1.heap.size := (by omega)))
      refine bodyPost_ret (by simp [results, Try.results79, go_sem, *]; try rfl) rfl ⟨?_, ?_⟩
      · simp [bothR, h1, h2]
      · repeat' (first | (with_reducible exact Below.refl _ _) | (with_reducible assumption) | (refine below_step (by assumption) ?_ ?_) | (with_reducible refine below_drewN ?_ _) | (with_reducible refine Below.drew ?_) | (with_reducible refine Below.alloc ?_ ?_ _) | (with_reducible refine Below.setCell ?_ ?_ _) | go_size)
    | true =>
      have H2 := Lib.hid (H.out h1 h2); clear H
      obtain ⟨x0, x1, y0, y1⟩ := HX.out h1 h2
      clear HX
      go_enter Try.func79, Try.ntmps79
      go_wp2_with (first | (go_at_call 90; (with_reducible refine (isFrac_is h1 a0 a1 a2 a3 _).mono ?_); rintro e w1 ⟨rfl, hb1⟩; obtain ⟨hc1, hf1⟩ := bcell hb1; have hz1 := hb1.size; (try simp only [World.size_alloc, World.size_setCell, World.size_drew, hsz_drewN] at hz1); have z0 : w.heap.size < w1.heap.size := (by omega); have z1 : w.heap.size + 1 < w1.heap.size := (by omega); have z2 : w.heap.size + 2 < w1.heap.size := (by omega)) | (go_at_call 90; (with_reducible refine (isFrac_is h2 b0 b1 b2 b3 _).mono ?_); rintro e w1 ⟨rfl, hb1⟩; obtain ⟨hc1, hf1⟩ := bcell hb1; have hz1 := hb1.size; (try simp only [World.size_alloc, World.size_setCell, World.size_drew, hsz_drewN] at hz1); have z0 : w.heap.size < w1.heap.size := (by omega); have z1 : w.heap.size + 1 < w1.heap.size := (by omega); have z2 : w.heap.size + 2 < w1.heap.size := (by omega)) | (go_at_fn g; (with_reducible refine (H2.out _).mono ?_); rintro e w1 ⟨rfl, hb1⟩; obtain ⟨hc1, hf1⟩ := bcell hb1; have hz1 := hb1.size; (try simp only [World.size_alloc, World.size_setCell, World.size_drew, hsz_drewN] at hz1); have z0 : w.heap.size < w1.heap.size := (by omega); have z1 : w.heap.size + 1 < w1.heap.size := (by omega); have z2 : w.heap.size + 2 < w1.heap.size := (by omega)) | (go_at_call 22; (with_reducible refine (make_any _ _ x0 x1 y0 y1 _).mono ?_); rintro e w1 ⟨rfl, hb1⟩; obtain ⟨hc1, hf1⟩ := bcell hb1; have hz1 := hb1.size; (try simp only [World.size_alloc, World.size_setCell, World.size_drew, hsz_drewN] at hz1); have z0 : w.heap.size < w1.heap.size := (by omega); have z1 : w.heap.size + 1 < w1.heap.size := (by omega); have z2 : w.heap.size + 2 < w1.heap.size := (by omega)))
      refine bodyPost_ret (by simp [results, Try.results79, go_sem, *]; try rfl) rfl ⟨?_, ?_⟩
      · simp [bothR, h1, h2]
      · repeat' (first | (with_reducible exact Below.refl _ _) | (with_reducible assumption) | (refine below_step (by assumption) ?_ ?_) | (with_reducible refine below_drewN ?_ _) | (with_reducible refine Below.drew ?_) | (with_reducible refine Below.alloc ?_ ?_ _) | (with_reducible refine Below.setCell ?_ ?_ _) | go_size)

end Go.Proofs.Ytdlmdaononclgaa
