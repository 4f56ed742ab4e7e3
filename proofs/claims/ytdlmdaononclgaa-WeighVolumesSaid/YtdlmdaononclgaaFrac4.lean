import Derived.Test.YtdlmdaononclgaaFrac3
/- Fractions, 4: Add, Sub, Mul, Div by both. -/
namespace Go.Proofs.Ytdlmdaononclgaa
open Go.RowKit
set_option linter.unusedVariables false
set_option linter.unusedSimpArgs false

theorem bd_all {an ad bn bd : Int} (h1 : okF an ad = true) (h2 : okF bn bd = true) :
    (-1000000000000000000 ≤ an * bd ∧ an * bd ≤ 1000000000000000000) ∧ (-1000000000000000000 ≤ bn * ad ∧ bn * ad ≤ 1000000000000000000) ∧ (-1000000000000000000 ≤ ad * bd ∧ ad * bd ≤ 1000000000000000000) ∧ (-1000000000000000000 ≤ an * bn ∧ an * bn ≤ 1000000000000000000) ∧ (-1000000000000000000 ≤ ad * bn ∧ ad * bn ≤ 1000000000000000000) := by
  obtain ⟨a0, a1, a2, a3⟩ := okF_bd h1
  obtain ⟨b0, b1, b2, b3⟩ := okF_bd h2
  exact ⟨mul_bd a0 a1 (by omega) b3, mul_bd b0 b1 (by omega) a3, mul_bd (by omega) a3 (by omega) b3, mul_bd a0 a1 b0 b1, mul_bd (by omega) a3 b0 b1⟩

set_option maxHeartbeats 1000000 in
theorem Add_any (an ad bn bd : Int) (a0 : -9223372036854775808 ≤ an) (a1 : an ≤ 9223372036854775807) (a2 : -9223372036854775808 ≤ ad) (a3 : ad ≤ 9223372036854775807) (b0 : -9223372036854775808 ≤ bn) (b1 : bn ≤ 9223372036854775807) (b2 : -9223372036854775808 ≤ bd) (b3 : bd ≤ 9223372036854775807) (w : World) :
    Calls Try.prog 36 #[.agg #[.int .i64 an, .int .i64 ad], .agg #[.int .i64 bn, .int .i64 bd]] w fun e w' => e = .returned (.tuple #[.agg #[.int .i64 (bothR an ad bn bd (an * bd + bn * ad) (ad * bd)).1, .int .i64 (bothR an ad bn bd (an * bd + bn * ad) (ad * bd)).2.1], .int .i64 (bothR an ad bn bd (an * bd + bn * ad) (ad * bd)).2.2]) ∧ Below w.heap.size w w' := by
  have hb : ∀ W, Calls Try.prog 79 #[.agg #[.int .i64 an, .int .i64 ad], .agg #[.int .i64 bn, .int .i64 bd], .func (.func 80) #[] #[]] W _ := fun W =>
    both_any 80 (enters_of Try.func80 (by kernel_rfl) rfl) an ad bn bd (an * bd + bn * ad) (ad * bd) (ofAdd an ad bn bd) a0 a1 a2 a3 b0 b1 b2 b3 (fun h1 h2 => by have := bd_all h1 h2; omega) W
  have H := Lib.hid hb; clear hb
  go_enter Try.func36, Try.ntmps36
  go_wp2_with ((go_at_call 79; (with_reducible refine (H.out _).mono ?_); rintro e w1 ⟨rfl, hb1⟩; obtain ⟨hc1, hf1⟩ := bcell hb1; have hz1 := hb1.size; (try simp only [World.size_alloc, World.size_setCell, World.size_drew, hsz_drewN] at hz1); have z0 : w.heap.size < w1.heap.size := (by omega); have z1 : w.heap.size + 1 < w1.heap.size := (by omega); have z2 : w.heap.size + 2 < w1.heap.size := (by omega)))
  refine bodyPost_ret (by simp [results, Try.results36, go_sem, *]; try rfl) rfl ⟨?_, ?_⟩
  · rfl
  · repeat' (first | (with_reducible exact Below.refl _ _) | (with_reducible assumption) | (refine below_step (by assumption) ?_ ?_) | (with_reducible refine below_drewN ?_ _) | (with_reducible refine Below.drew ?_) | (with_reducible refine Below.alloc ?_ ?_ _) | (with_reducible refine Below.setCell ?_ ?_ _) | go_size)

set_option maxHeartbeats 1000000 in
theorem Sub_any (an ad bn bd : Int) (a0 : -9223372036854775808 ≤ an) (a1 : an ≤ 9223372036854775807) (a2 : -9223372036854775808 ≤ ad) (a3 : ad ≤ 9223372036854775807) (b0 : -9223372036854775808 ≤ bn) (b1 : bn ≤ 9223372036854775807) (b2 : -9223372036854775808 ≤ bd) (b3 : bd ≤ 9223372036854775807) (w : World) :
    Calls Try.prog 38 #[.agg #[.int .i64 an, .int .i64 ad], .agg #[.int .i64 bn, .int .i64 bd]] w fun e w' => e = .returned (.tuple #[.agg #[.int .i64 (bothR an ad bn bd (an * bd - bn * ad) (ad * bd)).1, .int .i64 (bothR an ad bn bd (an * bd - bn * ad) (ad * bd)).2.1], .int .i64 (bothR an ad bn bd (an * bd - bn * ad) (ad * bd)).2.2]) ∧ Below w.heap.size w w' := by
  have hb : ∀ W, Calls Try.prog 79 #[.agg #[.int .i64 an, .int .i64 ad], .agg #[.int .i64 bn, .int .i64 bd], .func (.func 82) #[] #[]] W _ := fun W =>
    both_any 82 (enters_of Try.func82 (by kernel_rfl) rfl) an ad bn bd (an * bd - bn * ad) (ad * bd) (ofSub an ad bn bd) a0 a1 a2 a3 b0 b1 b2 b3 (fun h1 h2 => by have := bd_all h1 h2; omega) W
  have H := Lib.hid hb; clear hb
  go_enter Try.func38, Try.ntmps38
  go_wp2_with ((go_at_call 79; (with_reducible refine (H.out _).mono ?_); rintro e w1 ⟨rfl, hb1⟩; obtain ⟨hc1, hf1⟩ := bcell hb1; have hz1 := hb1.size; (try simp only [World.size_alloc, World.size_setCell, World.size_drew, hsz_drewN] at hz1); have z0 : w.heap.size < w1.heap.size := (by omega); have z1 : w.heap.size + 1 < w1.heap.size := (by omega); have z2 : w.heap.size + 2 < w1.heap.size := (by omega)))
  refine bodyPost_ret (by simp [results, Try.results38, go_sem, *]; try rfl) rfl ⟨?_, ?_⟩
  · rfl
  · repeat' (first | (with_reducible exact Below.refl _ _) | (with_reducible assumption) | (refine below_step (by assumption) ?_ ?_) | (with_reducible refine below_drewN ?_ _) | (with_reducible refine Below.drew ?_) | (with_reducible refine Below.alloc ?_ ?_ _) | (with_reducible refine Below.setCell ?_ ?_ _) | go_size)

set_option maxHeartbeats 1000000 in
theorem Mul_any (an ad bn bd : Int) (a0 : -9223372036854775808 ≤ an) (a1 : an ≤ 9223372036854775807) (a2 : -9223372036854775808 ≤ ad) (a3 : ad ≤ 9223372036854775807) (b0 : -9223372036854775808 ≤ bn) (b1 : bn ≤ 9223372036854775807) (b2 : -9223372036854775808 ≤ bd) (b3 : bd ≤ 9223372036854775807) (w : World) :
    Calls Try.prog 40 #[.agg #[.int .i64 an, .int .i64 ad], .agg #[.int .i64 bn, .int .i64 bd]] w fun e w' => e = .returned (.tuple #[.agg #[.int .i64 (bothR an ad bn bd (an * bn) (ad * bd)).1, .int .i64 (bothR an ad bn bd (an * bn) (ad * bd)).2.1], .int .i64 (bothR an ad bn bd (an * bn) (ad * bd)).2.2]) ∧ Below w.heap.size w w' := by
  have hb : ∀ W, Calls Try.prog 79 #[.agg #[.int .i64 an, .int .i64 ad], .agg #[.int .i64 bn, .int .i64 bd], .func (.func 83) #[] #[]] W _ := fun W =>
    both_any 83 (enters_of Try.func83 (by kernel_rfl) rfl) an ad bn bd (an * bn) (ad * bd) (ofMul an ad bn bd) a0 a1 a2 a3 b0 b1 b2 b3 (fun h1 h2 => by have := bd_all h1 h2; omega) W
  have H := Lib.hid hb; clear hb
  go_enter Try.func40, Try.ntmps40
  go_wp2_with ((go_at_call 79; (with_reducible refine (H.out _).mono ?_); rintro e w1 ⟨rfl, hb1⟩; obtain ⟨hc1, hf1⟩ := bcell hb1; have hz1 := hb1.size; (try simp only [World.size_alloc, World.size_setCell, World.size_drew, hsz_drewN] at hz1); have z0 : w.heap.size < w1.heap.size := (by omega); have z1 : w.heap.size + 1 < w1.heap.size := (by omega); have z2 : w.heap.size + 2 < w1.heap.size := (by omega)))
  refine bodyPost_ret (by simp [results, Try.results40, go_sem, *]; try rfl) rfl ⟨?_, ?_⟩
  · rfl
  · repeat' (first | (with_reducible exact Below.refl _ _) | (with_reducible assumption) | (refine below_step (by assumption) ?_ ?_) | (with_reducible refine below_drewN ?_ _) | (with_reducible refine Below.drew ?_) | (with_reducible refine Below.alloc ?_ ?_ _) | (with_reducible refine Below.setCell ?_ ?_ _) | go_size)

set_option maxHeartbeats 1000000 in
theorem Div_any (an ad bn bd : Int) (a0 : -9223372036854775808 ≤ an) (a1 : an ≤ 9223372036854775807) (a2 : -9223372036854775808 ≤ ad) (a3 : ad ≤ 9223372036854775807) (b0 : -9223372036854775808 ≤ bn) (b1 : bn ≤ 9223372036854775807) (b2 : -9223372036854775808 ≤ bd) (b3 : bd ≤ 9223372036854775807) (w : World) :
    Calls Try.prog 42 #[.agg #[.int .i64 an, .int .i64 ad], .agg #[.int .i64 bn, .int .i64 bd]] w fun e w' => e = .returned (.tuple #[.agg #[.int .i64 (bothR an ad bn bd (an * bd) (ad * bn)).1, .int .i64 (bothR an ad bn bd (an * bd) (ad * bn)).2.1], .int .i64 (bothR an ad bn bd (an * bd) (ad * bn)).2.2]) ∧ Below w.heap.size w w' := by
  have hb : ∀ W, Calls Try.prog 79 #[.agg #[.int .i64 an, .int .i64 ad], .agg #[.int .i64 bn, .int .i64 bd], .func (.func 84) #[] #[]] W _ := fun W =>
    both_any 84 (enters_of Try.func84 (by kernel_rfl) rfl) an ad bn bd (an * bd) (ad * bn) (ofDiv an ad bn bd) a0 a1 a2 a3 b0 b1 b2 b3 (fun h1 h2 => by have := bd_all h1 h2; omega) W
  have H := Lib.hid hb; clear hb
  go_enter Try.func42, Try.ntmps42
  go_wp2_with ((go_at_call 79; (with_reducible refine (H.out _).mono ?_); rintro e w1 ⟨rfl, hb1⟩; obtain ⟨hc1, hf1⟩ := bcell hb1; have hz1 := hb1.size; (try simp only [World.size_alloc, World.size_setCell, World.size_drew, hsz_drewN] at hz1); have z0 : w.heap.size < w1.heap.size := (by omega); have z1 : w.heap.size + 1 < w1.heap.size := (by omega); have z2 : w.heap.size + 2 < w1.heap.size := (by omega)))
  refine bodyPost_ret (by simp [results, Try.results42, go_sem, *]; try rfl) rfl ⟨?_, ?_⟩
  · rfl
  · repeat' (first | (with_reducible exact Below.refl _ _) | (with_reducible assumption) | (refine below_step (by assumption) ?_ ?_) | (with_reducible refine below_drewN ?_ _) | (with_reducible refine Below.drew ?_) | (with_reducible refine Below.alloc ?_ ?_ _) | (with_reducible refine Below.setCell ?_ ?_ _) | go_size)

end Go.Proofs.Ytdlmdaononclgaa
