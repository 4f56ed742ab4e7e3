import Derived.Test.YtdlmdaononclgaaDoorMC
/- The reference's makers of positions: At, Places. -/
namespace Go.Proofs.YtdlmdaononclgaaDoor
open Go.RowKit
set_option linter.unusedVariables false
set_option linter.unusedSimpArgs false

/-- the number at an index modulo the length. -/
def atZ (xs : List Int) (i : Int) : Int := if xs.length = 0 then 0 else ix xs (i % (xs.length : Int)).toNat
theorem atZ_bd {xs : List Int} {i : Int} (bd : ∀ j, -9223372036854775808 ≤ ix xs j ∧ ix xs j ≤ 9223372036854775807) : -9223372036854775808 ≤ atZ xs i ∧ atZ xs i ≤ 9223372036854775807 := by
  unfold atZ; split
  · omega
  · exact bd _

/-- positions as Places makes them. -/
structure PlP (many most : Int) (ps : List Int) : Prop where
  one : 1 ≤ ps.length
  many : ps.length ≤ many
  lo : 0 ≤ ix ps 0
  hi : ix ps 0 ≤ 49
  step : ∀ j, j + 1 < ps.length → 1 ≤ dx ps j ∧ dx ps j ≤ 3 * most
theorem ix_append_lt {xs ys : List Int} {j : Nat} (h : j < xs.length) : ix (xs ++ ys) j = ix xs j := by
  simp [ix, List.getD, List.getElem?_append_left h]
theorem ix_append_at (xs : List Int) (y : Int) : ix (xs ++ [y]) xs.length = y := by simp [ix, List.getD]
theorem PlP.snoc {many most : Int} {ps : List Int} (h : PlP many most ps) (hm : (ps.length : Int) < many) {y : Int} (h1 : 1 ≤ y - ix ps (ps.length - 1)) (h2 : y - ix ps (ps.length - 1) ≤ 3 * most) : PlP many most (ps ++ [y]) := by
  have h0 := h.one
  refine ⟨by simp, by simp; omega, ?_, ?_, fun j hj => ?_⟩
  · rw [ix_append_lt (by omega)]; exact h.lo
  · rw [ix_append_lt (by omega)]; exact h.hi
  · simp only [List.length_append, List.length_cons, List.length_nil] at hj
    by_cases e : j + 1 < ps.length
    · unfold dx
      rw [ix_append_lt e, ix_append_lt (by omega)]
      exact h.step j e
    · obtain rfl : j = ps.length - 1 := by omega
      unfold dx
      rw [show ps.length - 1 + 1 = ps.length by omega, ix_append_at, ix_append_lt (by omega)]
      exact ⟨h1, h2⟩
theorem PlP.bd {many most : Int} {ps : List Int} (h : PlP many most ps) (hm : 0 ≤ most) : ∀ j : Nat, j < ps.length → 0 ≤ ix ps j ∧ ix ps j ≤ 49 + 3 * most * j
  | 0, _ => by have := h.lo; have := h.hi; rw [show ((0 : Nat) : Int) = 0 from rfl, Int.mul_zero]; omega
  | j + 1, hj => by
    have a := h.bd hm j (by omega)
    have b := h.step j hj
    unfold dx at b
    rw [show ((j + 1 : Nat) : Int) = (j : Int) + 1 by omega, Int.mul_add]
    omega
theorem PlP.okP {many most top : Int} {ps : List Int} (h : PlP many most ps) (h2 : 2 ≤ ps.length) (hm : 0 ≤ most) (ht : 49 + 3 * most * (many - 1) ≤ top) : OkP many top ps := by
  have hb := h.bd hm (ps.length - 1) (by omega)
  have := h.many
  have hle : 3 * most * ((ps.length - 1 : Nat) : Int) ≤ 3 * most * (many - 1) := Int.mul_le_mul_of_nonneg_left (by omega) (by omega)
  refine ⟨h2, by omega, h.lo, by omega, fun j hj => ?_⟩
  have := h.step j (by omega)
  unfold dx at this
  omega

/-- a literal of one number is the call's own. -/
theorem ownI_lit (W : World) (x : Int) (base : Nat) (hb : base ≤ W.heap.size) : OwnI (W.alloc (.cells #[.int .i64 x] 3)) base (.slice (some ⟨W.heap.size, 0, none⟩) 1 1) [x] :=
  ⟨rfl, .inr ⟨W.heap.size, 1, #[.int .i64 x], rfl, hb, heap_alloc_new W _, Nat.le_refl _, by unfold maxLen; omega, rfl, rfl⟩⟩

/-- what Places hands back. -/
def RetPl (many most : Int) (w : World) (e : Ending) (w' : World) : Prop :=
  ∃ ps v, e = .returned v ∧ OwnI w' w.heap.size v ps ∧ PlP many most ps ∧ 2 ≤ ps.length ∧ Below w.heap.size w w'

end Go.Proofs.YtdlmdaononclgaaDoor
