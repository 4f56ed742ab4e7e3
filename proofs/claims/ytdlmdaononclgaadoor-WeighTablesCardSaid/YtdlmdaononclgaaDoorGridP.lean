import Derived.Test.YtdlmdaononclgaaDoorPairs
import Derived.Test.YtdlmdaononclgaaDoorWt3
/- Plain facts on the grid of products; a new slice of rows. -/
namespace Go.Proofs.YtdlmdaononclgaaDoor
open Go.RowKit
set_option linter.unusedVariables false
set_option linter.unusedSimpArgs false

/-- the rows of products after t pairs. -/
def gridT (ws us : List Int) (t : Nat) : List (List Int) := (List.range ws.length).map fun i => (List.range (min us.length (t - i * us.length))).map fun k => IntKind.i64.wrap (ix ws i * ix us k)
def gridZ (xs zs : List Int) : List (List Int) := gridT (weightsZ xs) (weightsZ zs) ((weightsZ xs).length * (weightsZ zs).length)

theorem gridT_length (ws us : List Int) (t : Nat) : (gridT ws us t).length = ws.length := by simp [gridT]
theorem gridT_rx {ws us : List Int} {t i : Nat} (hi : i < ws.length) : rx (gridT ws us t) i = (List.range (min us.length (t - i * us.length))).map fun k => IntKind.i64.wrap (ix ws i * ix us k) := by
  simp [rx, gridT, List.getD, List.getElem?_range hi]
theorem gridT_zero (ws us : List Int) : gridT ws us 0 = List.replicate ws.length [] := by
  apply List.ext_getElem
  · simp [gridT]
  · intro i h1 h2
    simp [gridT]
theorem gridT_succ {ws us : List Int} {t i k : Nat} (hi : i < ws.length) (hk : k < us.length) (ht : t = i * us.length + k) :
    gridT ws us (t + 1) = (gridT ws us t).set i (rx (gridT ws us t) i ++ [IntKind.i64.wrap (ix ws i * ix us k)]) := by
  apply List.ext_getElem
  · simp [gridT]
  · intro j h1 h2
    rw [gridT_length] at h1
    rw [List.getElem_set]
    by_cases e : i = j
    · subst e
      rw [if_pos rfl, gridT_rx hi]
      simp only [gridT, List.getElem_map, List.getElem_range]
      rw [show min us.length (t + 1 - i * us.length) = k + 1 by omega, show min us.length (t - i * us.length) = k by omega, List.range_succ, List.map_append]
      rfl
    · rw [if_neg e]
      simp only [gridT, List.getElem_map, List.getElem_range]
      rcases Nat.lt_or_ge j i with h | h
      · have := Nat.mul_le_mul_right us.length (by omega : j + 1 ≤ i)
        rw [Nat.succ_mul] at this
        rw [show min us.length (t + 1 - j * us.length) = us.length by omega, show min us.length (t - j * us.length) = us.length by omega]
      · have := Nat.mul_le_mul_right us.length (by omega : i + 1 ≤ j)
        rw [Nat.succ_mul] at this
        rw [show min us.length (t + 1 - j * us.length) = 0 by omega, show min us.length (t - j * us.length) = 0 by omega]
theorem gridT_row_length {ws us : List Int} {t i k : Nat} (hi : i < ws.length) (hk : k < us.length) (ht : t = i * us.length + k) : (rx (gridT ws us t) i).length = k := by
  rw [gridT_rx hi]; simp; omega
theorem gridT_full {ws us : List Int} {i : Nat} (hi : i < ws.length) : rx (gridT ws us (ws.length * us.length)) i = (List.range us.length).map fun k => IntKind.i64.wrap (ix ws i * ix us k) := by
  have := Nat.mul_le_mul_right us.length (by omega : i + 1 ≤ ws.length)
  rw [Nat.succ_mul] at this
  rw [gridT_rx hi, show min us.length (ws.length * us.length - i * us.length) = us.length by omega]
theorem gridT_ix {ws us : List Int} {i k : Nat} (hi : i < ws.length) (hk : k < us.length) : ix (rx (gridT ws us (ws.length * us.length)) i) k = IntKind.i64.wrap (ix ws i * ix us k) := by
  rw [gridT_full hi]
  simp [ix, List.getD, List.getElem?_range hk]

theorem nils_made (n : Nat) : madeCells #[Value.slice none 0 0] n = (List.replicate n (Value.slice none 0 0)).toArray := by
  apply Array.ext
  · simp [size_madeCells]
  · intro i h1 h2
    simp [madeCells, Nat.mod_one]
theorem infoInts : (Tryd.prog.info? 22).map (fun i => (i.zero, i.size, i.bytes)) = some (some (.slice none 0 0), 1, 24) := by kernel_rfl
theorem make_rows (n : Nat) (hn : n ≤ 1000000) (W : World) : (Instr.makeSlice 23 (.int .i64 (n : Int)) (.int .i64 (n : Int))).run Tryd.prog W = .ok (.slice (some ⟨W.heap.size, 0, none⟩) n n) (W.alloc (.cells (List.replicate n (Value.slice none 0 0)).toArray 22)) := by
  obtain ⟨i0, hi, hz0, hz1, hz2⟩ := info_parts infoInts
  have := run_make (P := Tryd.prog) W 23 22 i0 (.slice none 0 0) Tryd.underlying23 hi hz0 .i64 .i64 (n : Int) (n : Int) (by omega) (by omega) (by rw [hz2]; omega) (by omega)
  rw [this, hz1]
  simp only [Int.toNat_natCast, Value.cells, Nat.mul_one, nils_made]

theorem OkP.wide {xs : List Int} (h : OkP 7 15000 xs) : OkP 9 100000 xs := ⟨h.two, by have := h.many; omega, h.low, by have := h.high; omega, h.inc⟩

end Go.Proofs.YtdlmdaononclgaaDoor
