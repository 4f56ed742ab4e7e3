import Derived.Test.YtdlmdaononclgaaWt1
import Derived.BigRegion
/- slices.Reverse at three numbers. -/
namespace Go.Proofs.Ytdlmdaononclgaa
open Go.RowKit
set_option linter.unusedVariables false
set_option linter.unusedSimpArgs false

set_option maxHeartbeats 1000000 in
theorem rev3_any (g c : Nat) (x y z : Int) (w : World) (ha : Arr w g [x, y, z]) :
    Calls Try.prog 97 #[.slice (some ⟨g, 0, none⟩) 3 c] w fun e w' => e = .returned (.tuple #[]) ∧ Arr w' g [z, y, x] ∧ Only g w w' := by
  have y0 : w.cell? ⟨g, 0, none⟩ = some (.int .i64 x) := ha.cell (j := 0) (by simp)
  have y2 : w.cell? ⟨g, 2, none⟩ = some (.int .i64 z) := ha.cell (j := 2) (by simp)
  have f0 := ha.free 0
  have f2 := ha.free 2
  have HA := Lib.hid ha
  clear ha
  go_enter Try.func97, Try.ntmps97
  go_wp2
  refine wp_loop_rounds 3 ?_
  rw [rounds_succ]
  go_wp2
  go_region
  all_goals go_wp2
  all_goals rw [rounds_succ]
  all_goals go_wp2
  all_goals go_end0
  exact ⟨rfl, (HA.out.set 0 z).set 2 x, (((Only.refl g w).setCell 0 _).setCell 2 _).drewN 1⟩

/-- n zeros, as a block's cells. -/
def zerosA (n : Nat) : Array Value := (ints (List.replicate n 0)).toArray
theorem zerosA_made (n : Nat) : madeCells #[Value.int .i64 0] n = zerosA n := by
  apply Array.ext
  · simp [size_madeCells, zerosA, ints]
  · intro i h1 h2
    simp [madeCells, zerosA, ints, Nat.mod_one]
theorem infoInt : (Try.prog.info? 3).map (fun i => (i.zero, i.size, i.bytes)) = some (some (.int .i64 0), 1, 8) := by kernel_rfl
theorem make_ints (n : Nat) (hn : n ≤ 1000000) (W : World) : (Instr.makeSlice 22 (.int .i64 (n : Int)) (.int .i64 (n : Int))).run Try.prog W = .ok (.slice (some ⟨W.heap.size, 0, none⟩) n n) (W.alloc (.cells (zerosA n) 3)) := by
  obtain ⟨i0, hi, hz0, hz1, hz2⟩ := info_parts infoInt
  have := run_make (P := Try.prog) W 22 3 i0 (.int .i64 0) Try.underlying22 hi hz0 .i64 .i64 (n : Int) (n : Int) (by omega) (by omega) (by rw [hz2]; omega) (by omega)
  rw [this, hz1]
  simp only [Int.toNat_natCast, Value.cells, Nat.mul_one, zerosA_made]
theorem Arr.zeros (W : World) (n : Nat) : Arr (W.alloc (.cells (zerosA n) 3)) W.heap.size (List.replicate n 0) := heap_alloc_new W _

end Go.Proofs.Ytdlmdaononclgaa
