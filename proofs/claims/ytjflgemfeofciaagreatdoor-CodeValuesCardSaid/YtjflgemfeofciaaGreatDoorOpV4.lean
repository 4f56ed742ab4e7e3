import Derived.Test.YtjflgemfeofciaaGreatDoorLawG
/- The point of CodeValues, as it came in. -/
namespace Go.Proofs.YtjflgemfeofciaaGreatDoor
open Go Go.Ev Go.ChangeShapes Go.WideShapes
set_option linter.unusedVariables false
set_option linter.unusedSimpArgs false
set_option maxRecDepth 100000
section
variable {H : Type} {enc : TypeId × Value → H} {W : World} {cs : List Value} {v : Value} {d : DataW H} {p : List MemPlace} {b0 : Nat}
theorem list9 {α : Type} {l : List α} (h : l.length = 9) : ∃ a b c d e f g i j, l = [a, b, c, d, e, f, g, i, j] := by match l, h with | [a, b, c, d, e, f, g, i, j], _ => exact ⟨a, b, c, d, e, f, g, i, j, rfl⟩
theorem arg_point (hv : Value.okWide Tryz.prog W .any b0 49 v) (h : DataW.Trod enc Tryz.prog W 0 (fun _ => true) true 49 v d p) :
    ∃ n0 n1 n2 n3 n4 n5 n6 n7 n8 : Int, aV W.heap.size v = .agg [.i .i64 n0, .i .i64 n1, .i .i64 n2, .i .i64 n3, .i .i64 n4, .i .i64 n5, .i .i64 n6, .i .i64 n7, .i .i64 n8] := by
  obtain ⟨⟨cs⟩, rfl, _⟩ := okWide_struct Tryz.underlying49 hv
  obtain ⟨fuel, hf⟩ := h
  have h : Tr enc Tryz.prog W 49 cs := ⟨fuel, _, hf⟩
  have hl := h.len (n := 9) Tryz.underlying49 (by kernel_rfl)
  obtain ⟨a, b, c, d, e, f, g, i, j, rfl⟩ := list9 hl
  have hf := h.fld Tryz.underlying49
  have h0 := hf 0 3 0 1 rfl (by kernel_rfl)
  have h1 := hf 1 3 1 1 rfl (by kernel_rfl)
  have h2 := hf 2 3 2 1 rfl (by kernel_rfl)
  have h3 := hf 3 3 3 1 rfl (by kernel_rfl)
  have h4 := hf 4 38 4 5 rfl (by kernel_rfl)
  have g0 := h4.elt Tryz.underlying38 (n := 1) (by kernel_rfl) 0 (by decide)
  have g1 := h4.elt Tryz.underlying38 (n := 1) (by kernel_rfl) 1 (by decide)
  have g2 := h4.elt Tryz.underlying38 (n := 1) (by kernel_rfl) 2 (by decide)
  have g3 := h4.elt Tryz.underlying38 (n := 1) (by kernel_rfl) 3 (by decide)
  have g4 := h4.elt Tryz.underlying38 (n := 1) (by kernel_rfl) 4 (by decide)
  obtain ⟨n0, rfl⟩ := one_int Tryz.underlying3 h0
  obtain ⟨n1, rfl⟩ := one_int Tryz.underlying3 h1
  obtain ⟨n2, rfl⟩ := one_int Tryz.underlying3 h2
  obtain ⟨n3, rfl⟩ := one_int Tryz.underlying3 h3
  obtain ⟨n4, rfl⟩ := one_int Tryz.underlying3 g0
  obtain ⟨n5, rfl⟩ := one_int Tryz.underlying3 g1
  obtain ⟨n6, rfl⟩ := one_int Tryz.underlying3 g2
  obtain ⟨n7, rfl⟩ := one_int Tryz.underlying3 g3
  obtain ⟨n8, rfl⟩ := one_int Tryz.underlying3 g4
  exact ⟨n0, n1, n2, n3, n4, n5, n6, n7, n8, by simp only [aV, aVs]⟩
end
end Go.Proofs.YtjflgemfeofciaaGreatDoor
