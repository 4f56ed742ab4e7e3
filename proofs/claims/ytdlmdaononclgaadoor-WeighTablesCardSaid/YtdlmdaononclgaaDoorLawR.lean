import Derived.Test.YtdlmdaononclgaaDoorLaw
import Derived.SizedLaws
/- Arguments that are slices, with the form's own reach. -/
namespace Go.Proofs.YtdlmdaononclgaaDoor
open Go.ChangeShapes Go.WideShapes Go.ChangeAt Go.RowKit
set_option linter.unusedVariables false
set_option linter.unusedSimpArgs false

section
variable {H : Type} {enc : TypeId × Value → H} {P : Program}

/-- a slice of ints that came in. -/
def LR (W : World) (v : Value) : Prop := ∃ A c, ∃ xs : List Int, v = .slice A xs.length c ∧ xs.length ≤ c ∧ c ≤ 17592186043904 ∧ RD W W.heap.size A (ints xs) ∧ ∀ j, -9223372036854775808 ≤ ix xs j ∧ ix xs j ≤ 9223372036854775807

theorem open_LR' {W : World} {T E : TypeId} {v : Value} {fuel : Nat} {y : DataW H × List MemPlace} (ht : P.underlying T = some (.slice E)) (he : P.underlying E = some (.int .i64)) (hc : P.cellsOf E = 1) (h8 : P.bytesOf E = 8)
    (hf : DataW.trod enc P W 0 (fun _ => true) true fuel T [v] = some y) (hR : ∀ n ∈ y.1.weights P T, n ≤ reachBytes) : LR W v := by
  obtain ⟨A, c, xs, rfl, h1, h2, h3, h4⟩ := open_list' ht he hc hf
  refine ⟨A, c, xs, rfl, h1, ?_, h3, h4⟩
  rcases open_ints ht he hc hf with ⟨hcs, _⟩ | ⟨a, len, cap, zs, hcs, _, hle, hm, hz, rfl, hcell, hwf⟩
  · simp only [List.cons.injEq, and_true, Value.slice.injEq] at hcs
    omega
  · simp only [List.cons.injEq, and_true, Value.slice.injEq] at hcs
    obtain ⟨_, _, e⟩ := hcs
    rw [if_pos rfl] at hz
    have := hR (((lits (H := H) .i64 (zs.take len)).length + (lits (H := H) .i64 (zs.drop len)).length) * P.bytesOf E) (by simp [DataW.weights, ht])
    simp only [lits, List.length_map, List.length_take, List.length_drop, h8, reachBytes] at this
    omega
theorem open_LR {W : World} {T E : TypeId} {v : Value} {d : DataW H} {p : List MemPlace} {b0 : Nat} (ht : P.underlying T = some (.slice E)) (he : P.underlying E = some (.int .i64)) (hc : P.cellsOf E = 1) (h8 : P.bytesOf E = 8)
    (hv : Value.okWide P W .any b0 T v) (h : DataW.Trod enc P W 0 (fun _ => true) true T v d p) (hR : ∀ n ∈ d.weights P T, n ≤ reachBytes) : LR W v := by
  obtain ⟨a0, len, cap, rfl⟩ := okWide_slice ht hv
  obtain ⟨fuel, hf⟩ := h
  exact open_LR' ht he hc h8 hf hR
theorem weightsAll_mem {e : TypeId} : ∀ {l : List (DataW H)} {d : DataW H}, d ∈ l → ∀ n ∈ d.weights P e, n ∈ DataW.weightsAll P e l
  | a :: l, d, hd, n, hn => by
    simp only [DataW.weightsAll, List.mem_append]
    rcases List.mem_cons.1 hd with rfl | h
    · exact .inl hn
    · exact .inr (weightsAll_mem h n hn)
/-- arrays of slices of ints. -/
theorem open_LRs {W : World} {T E L : TypeId} {n : Nat} {v : Value} {d : DataW H} {p : List MemPlace} {b0 : Nat} (ht : P.underlying T = some (.array n L)) (hc : P.cellsOf L = 1) (hT : P.cellsOf T = n) (hL : P.underlying L = some (.slice E)) (he : P.underlying E = some (.int .i64)) (hE : P.cellsOf E = 1) (h8 : P.bytesOf E = 8)
    (hv : Value.okWide P W .any b0 T v) (h : DataW.Trod enc P W 0 (fun _ => true) true T v d p) (hR : ∀ n ∈ d.weights P T, n ≤ reachBytes) : ∃ cs : List Value, v = .agg cs.toArray ∧ cs.length = n ∧ ∀ x ∈ cs, LR W x := by
  simp only [Value.okWide, ht] at hv
  obtain ⟨cs, rfl, hsz, _⟩ := hv
  obtain ⟨fuel, hf⟩ := h
  obtain ⟨xs, m, _, hd, hl, hxl, hx⟩ := DataW.trod_array ht hf
  simp only [Prod.mk.injEq] at hd
  obtain ⟨rfl, _⟩ := hd
  refine ⟨cs.toList, rfl, by rw [Array.length_toList, hsz, hT], fun x hmem => ?_⟩
  obtain ⟨i, hi', hix⟩ := List.getElem_of_mem hmem
  have hi : i < n := by rw [Array.length_toList, hsz, hT] at hi'; exact hi'
  have h1 := hx i hi
  rw [hc] at h1
  simp only [Value.cells, Nat.mul_one] at h1
  have hdr : (cs.toList.drop i).take 1 = [x] := by
    rw [List.take_one, List.head?_drop, List.getElem?_eq_getElem hi', hix]; rfl
  rw [hdr, List.getElem?_eq_getElem (by omega)] at h1
  refine open_LR' hL he hE h8 h1 (fun k hk => hR k ?_)
  simp only [DataW.weights, ht]
  exact weightsAll_mem (List.mem_map.2 ⟨_, List.getElem_mem _, rfl⟩) k hk
theorem open_LR2 {W : World} {T E L : TypeId} {v : Value} {d : DataW H} {p : List MemPlace} {b0 : Nat} (ht : P.underlying T = some (.array 2 L)) (hc : P.cellsOf L = 1) (hT : P.cellsOf T = 2) (hL : P.underlying L = some (.slice E)) (he : P.underlying E = some (.int .i64)) (hE : P.cellsOf E = 1) (h8 : P.bytesOf E = 8)
    (hv : Value.okWide P W .any b0 T v) (h : DataW.Trod enc P W 0 (fun _ => true) true T v d p) (hR : ∀ n ∈ d.weights P T, n ≤ reachBytes) : ∃ x y, v = .agg #[x, y] ∧ LR W x ∧ LR W y := by
  obtain ⟨cs, rfl, hl, hx⟩ := open_LRs ht hc hT hL he hE h8 hv h hR
  match cs, hl with
  | [x, y], _ => exact ⟨x, y, rfl, hx x (by simp), hx y (by simp)⟩
theorem open_LR3 {W : World} {T E L : TypeId} {v : Value} {d : DataW H} {p : List MemPlace} {b0 : Nat} (ht : P.underlying T = some (.array 3 L)) (hc : P.cellsOf L = 1) (hT : P.cellsOf T = 3) (hL : P.underlying L = some (.slice E)) (he : P.underlying E = some (.int .i64)) (hE : P.cellsOf E = 1) (h8 : P.bytesOf E = 8)
    (hv : Value.okWide P W .any b0 T v) (h : DataW.Trod enc P W 0 (fun _ => true) true T v d p) (hR : ∀ n ∈ d.weights P T, n ≤ reachBytes) : ∃ x y z, v = .agg #[x, y, z] ∧ LR W x ∧ LR W y ∧ LR W z := by
  obtain ⟨cs, rfl, hl, hx⟩ := open_LRs ht hc hT hL he hE h8 hv h hR
  match cs, hl with
  | [x, y, z], _ => exact ⟨x, y, z, rfl, hx x (by simp), hx y (by simp), hx z (by simp)⟩
theorem reach_at {ts : List TypeId} {ds : List (DataW H)} (h : (DataW.weightsEach P ts ds).all (· ≤ reachBytes) = true) {j : Nat} {T : TypeId} {d : DataW H} (ht : ts[j]? = some T) (hd : ds[j]? = some d) : ∀ n ∈ d.weights P T, n ≤ reachBytes := fun n hn => by
  have := List.all_eq_true.1 h _ (DataW.weights_mem_each ht hd n hn)
  simpa using this
end

theorem bytesInt : Tryd.prog.bytesOf 3 = 8 := by kernel_rfl

end Go.Proofs.YtdlmdaononclgaaDoor
