import Derived.Test.YtdlmdaononclgaaMem
/- A box of a fraction that a call makes, ahead of it or behind it. -/
namespace Go.Proofs.Ytdlmdaononclgaa
open Go.RowKit
set_option linter.unusedVariables false
set_option linter.unusedSimpArgs false

/-- a box of a fraction, and what lies below. -/
structure FB (W : World) (x y : Int) (p : Nat) (wx : World) : Prop where
  below : Below W.heap.size W wx
  c0 : wx.cell? ⟨p, 0, none⟩ = some (.int .i64 x)
  c1 : wx.cell? ⟨p, 1, none⟩ = some (.int .i64 y)
  lo : W.heap.size ≤ p
  hi : p < wx.heap.size

theorem drew_below {W w' : World} (hb : Below W.drew.heap.size W.drew w') : Below W.heap.size W w' := ⟨hb.os, hb.tape, hb.output, hb.size, hb.block⟩
theorem newbox {W w' : World} {a b : Value} {t : TypeId} (hb : Below (W.alloc (.cells #[a, b] t)).drew.heap.size (W.alloc (.cells #[a, b] t)).drew w') :
    w'.cell? ⟨W.heap.size, 0, none⟩ = some a ∧ w'.cell? ⟨W.heap.size, 1, none⟩ = some b ∧ w'.frozen? ⟨W.heap.size, 0, none⟩ = false ∧ w'.frozen? ⟨W.heap.size, 1, none⟩ = false ∧ W.heap.size ≤ w'.heap.size ∧ W.heap.size < w'.heap.size ∧ Below W.heap.size W w' := by
  have h := drew_below hb
  have hz := h.size
  rw [World.size_alloc] at hz
  have hbk : w'.heap[W.heap.size]? = some (.cells #[a, b] t (0, 0)) := (h.block _ (by rw [World.size_alloc]; omega)).trans (heap_alloc_new W _)
  refine ⟨by rw [cell_of_row w' _ 0 _ _ _ hbk]; rfl, by rw [cell_of_row w' _ 1 _ _ _ hbk]; rfl, by simp [World.frozen?, hbk], by simp [World.frozen?, hbk], by omega, by omega, below_step h (Below.alloc (Below.refl _ _) (Nat.le_refl _) _) (by rw [World.size_alloc]; omega)⟩

theorem FB.of_first {W w' : World} {x y : Int} {t : TypeId} (hb : Below W.drew.heap.size W.drew w') : FB W x y w'.heap.size (w'.alloc (.cells #[.int .i64 x, .int .i64 y] t)) := by
  have h := drew_below hb
  exact ⟨h.alloc h.size _, by simp [go_sem], by simp [go_sem], h.size, by simp⟩
theorem FB.of_second {W w' : World} {a b : Value} {x y : Int} {t : TypeId} (hb : Below (W.alloc (.cells #[a, b] t)).drew.heap.size (W.alloc (.cells #[a, b] t)).drew w') :
    FB W x y W.heap.size ((w'.setCell ⟨W.heap.size, 0, none⟩ (.int .i64 x)).setCell ⟨W.heap.size, 1, none⟩ (.int .i64 y)) := by
  have h := drew_below hb
  have hz := h.size
  rw [World.size_alloc] at hz
  have hbk : w'.heap[W.heap.size]? = some (.cells #[a, b] t (0, 0)) := (h.block _ (by rw [World.size_alloc]; omega)).trans (heap_alloc_new W _)
  have hb2 : ((w'.setCell ⟨W.heap.size, 0, none⟩ (.int .i64 x)).setCell ⟨W.heap.size, 1, none⟩ (.int .i64 y)).heap[W.heap.size]? = some (.cells #[.int .i64 x, .int .i64 y] t (0, 0)) := by
    simp [World.setCell, Array.getElem?_modify, hbk]
  have hB : Below W.heap.size W w' := below_step h (Below.alloc (Below.refl _ _) (Nat.le_refl _) _) (by rw [World.size_alloc]; omega)
  exact ⟨(hB.setCell (Nat.le_refl _) _).setCell (Nat.le_refl _) _, by rw [cell_of_row _ _ 0 _ _ _ hb2]; rfl, by rw [cell_of_row _ _ 1 _ _ _ hb2]; rfl, Nat.le_refl _, by simp [World.setCell]; omega⟩

end Go.Proofs.Ytdlmdaononclgaa
