import Derived.Test.YtdlmdaononclgaaDoorLaw
import Derived.Test.YtdlmdaononclgaaDoorMD
import Derived.Deep.Matrix
import Derived.Lib.SmallJoins
/- a table that came in. -/
namespace Go.Proofs.YtdlmdaononclgaaDoor
open Go.ChangeShapes Go.WideShapes Go.ChangeAt Go.RowKit
set_option linter.unusedVariables false
set_option linter.unusedSimpArgs false

section
variable {H : Type} {enc : TypeId × Value → H} {P : Program}
theorem lt_of_cell {W : World} {b o : Nat} {s : Option Nat} {v : Value} (h : W.cell? ⟨b, o, s⟩ = some v) : b < W.heap.size := by
  unfold World.cell? at h
  refine Decidable.byContradiction fun hn => ?_
  rw [Array.getElem?_eq_none (show W.heap.size ≤ (Addr.mk b o s).block by show W.heap.size ≤ b; omega)] at h
  simp at h
theorem spot_of_cell {W : World} {a : Addr} {v : Value} (h : W.cell? a = some v) : a.spot = none := by
  unfold World.cell? at h
  cases hs : a.spot with
  | none => rfl
  | some x => rw [hs] at h; split at h <;> simp at h
theorem addr_of_cell {W : World} {a : Addr} {v : Value} (h : W.cell? (a.add 0) = some v) : ∃ b off, a = ⟨b, off, none⟩ := by
  obtain ⟨b, off, s⟩ := a
  have : s = none := spot_of_cell h
  subst this
  exact ⟨b, off, rfl⟩

theorem open_rows {W : World} {T E Q : TypeId} {v : Value} {fuel : Nat} {y : DataW H × List MemPlace} (ht : P.underlying T = some (.slice E)) (he : P.underlying E = some (.slice Q)) (hq : P.underlying Q = some (.int .i64)) (hc : P.cellsOf E = 1) (hcq : P.cellsOf Q = 1)
    (hf : DataW.trod enc P W 0 (fun _ => true) true fuel T [v] = some y) :
    ∃ A c vs, ∃ rs : List (List Int), v = .slice A rs.length c ∧ rs.length ≤ c ∧ c ≤ 9223372036854775807 ∧ RR W W.heap.size A vs rs := by
  rcases Go.Deep.open_int_rows ht he hq hc hcq hf with ⟨hcs, _⟩ | ⟨a, len, cap, A, L, C, Z, hcs, _, hle, hm, _, hr⟩
  · simp only [List.cons.injEq, and_true] at hcs
    subst hcs
    exact ⟨none, 0, [], [], rfl, Nat.le_refl _, by omega, ⟨rfl, .inl rfl, fun i hi => by simp at hi⟩⟩
  · simp only [List.cons.injEq, and_true] at hcs
    subst hcs
    unfold maxLen at hm
    have hrx : ∀ i, i < len → rx ((List.range len).map fun r => (Z r).take (L r)) i = (Z i).take (L i) := fun i hi => by simp [rx, List.getD, List.getElem?_range hi]
    have hvx : ∀ i, i < len → vx ((List.range len).map fun r => Value.slice (A r) (L r) (C r)) i = .slice (A i) (L i) (C i) := fun i hi => by simp [vx, List.getD, List.getElem?_range hi]
    refine ⟨some a, cap, (List.range len).map fun r => .slice (A r) (L r) (C r), (List.range len).map fun r => (Z r).take (L r), by simp, by simpa using hle, hm, ⟨by simp, ?_, fun i hi => ?_⟩⟩
    · by_cases h0 : len = 0
      · left; subst h0; rfl
      · obtain ⟨b, off, rfl⟩ := addr_of_cell (hr 0 (by omega)).1
        refine .inr ⟨b, off, rfl, lt_of_cell (hr 0 (by omega)).1, fun j u hu => ?_⟩
        have hj : j < len := by
          have := (List.getElem?_eq_some_iff.1 hu).1
          simpa using this
        have e := (hr j (by omega)).1
        rw [Addr.add_lit] at e
        rw [e]
        simp only [List.getElem?_map, List.getElem?_range hj, Option.map_some] at hu
        exact hu
    · have hi' : i < len := by simpa using hi
      rw [hrx i hi', hvx i hi']
      obtain ⟨_, r1, r2, r3, r4, r5, r6⟩ := hr i (by omega)
      have hl : ((Z i).take (L i)).length = L i := by rw [List.length_take, r3]; omega
      unfold maxLen at r2
      refine ⟨A i, C i, by rw [hl], by rw [hl]; exact r1, r2, ?_⟩
      cases hA : A i with
      | none => have := r5 hA; left; simp [ints, show L i = 0 by omega]
      | some a' =>
        by_cases h0 : L i = 0
        · left; simp [ints, h0]
        · obtain ⟨_, hcell⟩ := r6 a' hA
          obtain ⟨b, off, rfl⟩ := addr_of_cell (hcell 0 (by omega))
          refine .inr ⟨b, off, rfl, lt_of_cell (hcell 0 (by omega)), fun j u hu => ?_⟩
          rw [ints_get] at hu
          have hj : j < L i := by
            refine Decidable.byContradiction fun hn => ?_
            rw [List.getElem?_eq_none (by rw [hl]; omega)] at hu
            simp at hu
          have e := hcell j (by omega)
          rw [Addr.add_lit] at e
          rw [e]
          rw [List.getElem?_eq_getElem (by rw [hl]; exact hj)] at hu
          simp only [Option.map_some, Option.some.injEq] at hu
          rw [← hu]
          simp [List.getD, List.getElem?_eq_getElem (show j < (Z i).length by omega)]
end

set_option maxRecDepth 100000 in
/-- the argument of a law on tables. -/
theorem open_table {H : Type} {enc : TypeId × Value → H} {W : World} {v : Value} {d : DataW H} {p : List MemPlace} {b0 : Nat}
    (hv : Value.okWide Tryd.prog W .any b0 25 v) (h : DataW.Trod enc Tryd.prog W 0 (fun _ => true) true 25 v d p) :
    ∃ (xs zs : List Int) (rs : List (List Int)) (A1 : Option Addr) (c1 : Nat) (A2 : Option Addr) (c2 : Nat) (A3 : Option Addr) (c3 : Nat) (vs : List Value), v = .agg #[.slice A1 xs.length c1, .slice A2 zs.length c2, .slice A3 rs.length c3] ∧ TD W W.heap.size xs zs rs A1 c1 A2 c2 A3 c3 vs := by
  obtain ⟨v0, v1, v2, y0, y1, y2, n, rfl, _, _, t0, t1, t2⟩ := Go.Joins.open_agg3 Tryd.underlying25 (by kernel_rfl) (by kernel_rfl) hv h
  obtain ⟨A1, c1, xs, rfl, hc1, hm1, rd1, _⟩ := open_list' Tryd.underlying22 Tryd.underlying3 cellsInt t0
  obtain ⟨A2, c2, zs, rfl, hc2, hm2, rd2, _⟩ := open_list' Tryd.underlying22 Tryd.underlying3 cellsInt t1
  obtain ⟨A3, c3, vs, rs, rfl, hc3, hm3, rd3⟩ := open_rows Tryd.underlying23 Tryd.underlying22 Tryd.underlying3 (by kernel_rfl) cellsInt t2
  exact ⟨xs, zs, rs, A1, c1, A2, c2, A3, c3, vs, rfl, hc1, hm1, rd1, hc2, hm2, rd2, hc3, hm3, rd3⟩

end Go.Proofs.YtdlmdaononclgaaDoor
