import Derived.Test.YtdlmdaononclgaaDoorRows
import Derived.Test.YtdlmdaononclgaaDoorMB
import Derived.ProofKit
import Derived.OpenShut
import Derived.Lib.SmallJoins
/- A law's frame: out of a walk that ends in true and leaves what lay in memory as it lay, the given statement; and the reading of arguments. -/
namespace Go.Proofs.YtdlmdaononclgaaDoor
open Go.ChangeShapes Go.WideShapes Go.ChangeAt Go.RowKit
set_option linter.unusedVariables false
set_option linter.unusedSimpArgs false

section
variable {H : Type} {enc : TypeId × Value → H} {P : Program}

theorem trodAll_below (hl : laidOutB P = true) {W W' : World} (hb : Below W.heap.size W W') : ∀ {ts : List TypeId} {vs : List Value} {ds : List (DataW H)} {ps : List MemPlace}, (∀ t ∈ ts, P.readableRec t = true ∧ t < P.types.size) →
    DataW.TrodAll enc P W 0 (fun _ => true) true ts vs ds ps → (∀ x ∈ ps, x.block < W.heap.size) → ∀ sp : Nat → Bool, (∀ p ∈ ps, sp p.block = true) → DataW.TrodAll enc P W' 0 sp true ts vs ds ps
  | [], vs, ds, ps, _, h, _, sp, _ => by
    obtain ⟨rfl, rfl, rfl⟩ := trodAll_nil h; exact trodAll_mk0
  | t :: ts, vs, ds, ps, ht, h, hlt, sp, hsp => by
    obtain ⟨v0, vs0, d0, ds0, p0, q0, rfl, rfl, rfl, h0, r0⟩ := trodAll_cons h
    have hh := ht t List.mem_cons_self
    exact trodAll_cons_mk (WideElems.Trod_stays hl hh.1 hh.2 h0 (fun x hx => hb.same (hlt x (List.mem_append_left _ hx))) (fun x hx => hsp x (List.mem_append_left _ hx)))
      (trodAll_below hl hb (fun u hu => ht u (List.mem_cons_of_mem _ hu)) r0 (fun x hx => hlt x (List.mem_append_right _ hx)) sp (fun x hx => hsp x (List.mem_append_right _ hx)))

/-- what a law says behind a call that ends in true. -/
theorem post_law {f : Func} {s : ChangeSpec} {apart fresh handsOn again : Bool} {W W' : World} {args : Array Value} {ds gs : List (DataW H)} {before : List MemPlace} {tb : TypeId} (hl : laidOutB P = true)
    (hr0 : f.params.toList.all (fun t => P.readableRec t && decide (t < P.types.size)) = true) (hrt : f.resultTypes = #[tb]) (hbt : P.underlying tb = some .bool) (hsv : s.vars = [])
    (hfn : (s.fn H (ds ++ gs)).results = [.lit (.bool true)] ∧ (s.fn H (ds ++ gs)).args = ds ∧ (s.fn H (ds ++ gs)).vars = [])
    (hW : DataW.Whole enc P f.params.toList s.vars apart W args.toList ds gs before) (hb : Below W.heap.size W W') : s.post enc P f apart fresh handsOn again W args (.bool true) W' := by
  have hr : ∀ t ∈ f.params.toList, P.readableRec t = true ∧ t < P.types.size := fun t ht => by
    have := List.all_eq_true.1 hr0 t ht
    simpa using this
  obtain ⟨p, q, hA, hV, hpq, hfz, hnd⟩ := id hW
  rw [hsv] at hV
  obtain ⟨_, rfl⟩ := trodVars_none hV
  have hlt : ∀ x ∈ before, x.block < W.heap.size := fun x hx => by simpa using hW.lt x hx
  rw [List.append_nil] at hpq
  subst hpq
  have hargs : ∀ sp : Nat → Bool, (∀ p ∈ before, sp p.block = true) → DataW.TrodAll enc P W' 0 sp true f.params.toList args.toList (s.fn H (ds ++ gs)).args before := fun sp hsp => by
    rw [hfn.2.1]; exact trodAll_below hl hb hr hA hlt sp hsp
  have hres : ∀ (b : Nat) (sp : Nat → Bool) (hd : Bool), DataW.TrodAll enc P W' b sp hd f.resultTypes.toList ((Value.bool true).resultList f.resultTypes.size) (s.fn H (ds ++ gs)).results [] := fun b sp hd => by
    rw [hfn.1, hrt]; exact trodAll_mk1 (shut_bool hbt true)
  have hvars : ∀ sp : Nat → Bool, DataW.TrodVars enc P W' sp s.vars (s.fn H (ds ++ gs)).vars [] := fun sp => by
    rw [hsv, hfn.2.2]; rfl
  have hok : ∀ (j : Nat) (t : TypeId) (r : Value), f.resultTypes[j]? = some t → ((Value.bool true).resultList f.resultTypes.size)[j]? = some r → Value.okWide P W' .any 0 t r := ok_one hrt rfl (okWide_bool_mk hbt true)
  have hold : ∀ p ∈ before, (fun b => decide (b < W.heap.size)) p.block = true := fun p hp => by simpa using hlt p hp
  refine ⟨ds, gs, before, [], before, [], hW, hres _ _ _, hargs _ hold, hvars _, World.keptBut_mono (fun p hp => ⟨hp, ?_⟩) (hb.frame (· ∈ before)), fun _ => ?_⟩
  · exact Or.inr (by simpa using hp)
  · refine ⟨hok, _, _, ([] ++ before) ++ [], ⟨[] ++ before, [], trodAll_append (hargs _ (fun _ _ => rfl)) (hres _ _ _), hvars _, rfl, ?_, ?_⟩, ?_⟩
    · intro b off hp
      have hin : MemPlace.cell b off ∈ before := by simpa using hp
      rw [hb.frozen (hlt _ hin)]
      exact hfz b off hin
    · intro ha
      simpa using hnd ha
    · intro p hp _
      simpa using hp

/-- a slice of ints as data. -/
theorem open_list' {W : World} {T E : TypeId} {v : Value} {fuel : Nat} {y : DataW H × List MemPlace} (ht : P.underlying T = some (.slice E)) (he : P.underlying E = some (.int .i64)) (hc : P.cellsOf E = 1)
    (hf : DataW.trod enc P W 0 (fun _ => true) true fuel T [v] = some y) :
    ∃ A c, ∃ xs : List Int, v = .slice A xs.length c ∧ xs.length ≤ c ∧ c ≤ 9223372036854775807 ∧ RD W W.heap.size A (ints xs) ∧ ∀ j, -9223372036854775808 ≤ ix xs j ∧ ix xs j ≤ 9223372036854775807 := by
  rcases open_ints ht he hc hf with ⟨hcs, _⟩ | ⟨a, len, cap, zs, hcs, _, hle, hm, hz, _, hcell, hwf⟩
  · simp only [List.cons.injEq, and_true] at hcs
    subst hcs
    exact ⟨none, 0, [], rfl, Nat.le_refl _, by omega, RD.nil _ _ _, fun j => by simp [ix]⟩
  · simp only [List.cons.injEq, and_true] at hcs
    subst hcs
    rw [if_pos rfl] at hz
    have hxl : (zs.take len).length = len := by rw [List.length_take, hz]; omega
    have hix : ∀ j, j < len → ix (zs.take len) j = zs.getD j 0 := fun j hj => by simp [ix, List.getD, hj]
    refine ⟨some a, cap, zs.take len, by rw [hxl], by rw [hxl]; exact hle, by unfold maxLen at hm; exact hm, ?_, fun j => ?_⟩
    · by_cases h0 : len = 0
      · left; subst h0; simp [ints]
      · obtain ⟨b, off, rfl, hcl⟩ := ints_at hcell (by omega)
        have hb : b < W.heap.size := by
          have := hcl 0 (by omega)
          unfold World.cell? at this
          refine Decidable.byContradiction fun hn => ?_
          rw [Array.getElem?_eq_none (show W.heap.size ≤ (Addr.mk b (off + 0) none).block by show W.heap.size ≤ b; omega)] at this
          simp at this
        refine .inr ⟨b, off, rfl, hb, fun j v hv => ?_⟩
        rw [ints_get] at hv
        have hj : j < len := by
          refine Decidable.byContradiction fun hn => ?_
          rw [List.getElem?_eq_none (by rw [hxl]; omega)] at hv
          simp at hv
        have e := hcl j (by omega)
        rw [e]
        rw [List.getElem?_eq_getElem (by rw [hxl]; exact hj)] at hv
        simp only [Option.map_some, Option.some.injEq] at hv
        rw [← hv]
        simp [List.getD, List.getElem?_eq_getElem (show j < zs.length by omega)]
    · by_cases hj : j < len
      · rw [hix j hj]; have := range_i64 hwf j; simpa [List.getD] using this
      · have : ix (zs.take len) j = 0 := by simp [ix, List.getD, List.getElem?_eq_none (show (zs.take len).length ≤ j by omega)]
        rw [this]; omega
theorem open_list {W : World} {T E : TypeId} {v : Value} {d : DataW H} {p : List MemPlace} {b0 : Nat} (ht : P.underlying T = some (.slice E)) (he : P.underlying E = some (.int .i64)) (hc : P.cellsOf E = 1)
    (hv : Value.okWide P W .any b0 T v) (h : DataW.Trod enc P W 0 (fun _ => true) true T v d p) :
    ∃ A c, ∃ xs : List Int, v = .slice A xs.length c ∧ xs.length ≤ c ∧ c ≤ 9223372036854775807 ∧ RD W W.heap.size A (ints xs) ∧ ∀ j, -9223372036854775808 ≤ ix xs j ∧ ix xs j ≤ 9223372036854775807 := by
  obtain ⟨a0, len, cap, rfl⟩ := okWide_slice ht hv
  obtain ⟨fuel, hf⟩ := h
  exact open_list' ht he hc hf
/-- an array's cells. -/
theorem open_arr {W : World} {T E : TypeId} {n : Nat} {v : Value} {d : DataW H} {p : List MemPlace} {b0 : Nat} (ht : P.underlying T = some (.array n E)) (hc : P.cellsOf E = 1) (hT : P.cellsOf T = n)
    (hv : Value.okWide P W .any b0 T v) (h : DataW.Trod enc P W 0 (fun _ => true) true T v d p) :
    ∃ cs : List Value, v = .agg cs.toArray ∧ cs.length = n ∧ ∀ (i : Nat) (x : Value), cs[i]? = some x → ∃ fuel y, DataW.trod enc P W 0 (fun _ => true) true fuel E [x] = some y := by
  simp only [Value.okWide, ht] at hv
  obtain ⟨cs, rfl, hsz, _⟩ := hv
  obtain ⟨fuel, hf⟩ := h
  obtain ⟨xs, m, _, _, hl, hxl, hx⟩ := DataW.trod_array ht hf
  refine ⟨cs.toList, rfl, by rw [Array.length_toList, hsz, hT], fun i x hix => ?_⟩
  have hi : i < n := by
    have := (List.getElem?_eq_some_iff.1 hix).1
    rw [Array.length_toList, hsz, hT] at this
    exact this
  have := hx i hi
  rw [hc] at this
  simp only [Value.cells, Nat.mul_one] at this
  have hd : (cs.toList.drop i).take 1 = [x] := by
    rw [List.take_one, List.head?_drop, hix]; rfl
  rw [hd, List.getElem?_eq_getElem (by omega)] at this
  exact ⟨m, _, this⟩
theorem open_int' {W : World} {T : TypeId} {v : Value} {fuel : Nat} {y : DataW H × List MemPlace} (ht : P.underlying T = some (.int .i64)) (h : DataW.trod enc P W 0 (fun _ => true) true fuel T [v] = some y) :
    ∃ n : Int, v = .int .i64 n ∧ -9223372036854775808 ≤ n ∧ n ≤ 9223372036854775807 := by
  obtain ⟨n, e, _, wn⟩ := DataW.trod_int ht h
  simp only [List.cons.injEq, and_true] at e
  have := bounds_i64 wn
  exact ⟨n, e, this.1, this.2⟩
/-- arrays of two, three and four ints. -/
theorem open_int2 {W : World} {T E : TypeId} {v : Value} {d : DataW H} {p : List MemPlace} {b0 : Nat} (ht : P.underlying T = some (.array 2 E)) (hc : P.cellsOf E = 1) (hT : P.cellsOf T = 2) (he : P.underlying E = some (.int .i64))
    (hv : Value.okWide P W .any b0 T v) (h : DataW.Trod enc P W 0 (fun _ => true) true T v d p) :
    ∃ a b : Int, v = .agg #[.int .i64 a, .int .i64 b] ∧ (-9223372036854775808 ≤ a ∧ a ≤ 9223372036854775807) ∧ (-9223372036854775808 ≤ b ∧ b ≤ 9223372036854775807) := by
  obtain ⟨cs, rfl, hl, hx⟩ := open_arr ht hc hT hv h
  match cs, hl with
  | [x, y], _ =>
    obtain ⟨_, _, h0⟩ := hx 0 x rfl
    obtain ⟨_, _, h1⟩ := hx 1 y rfl
    obtain ⟨a, rfl, wa⟩ := open_int' he h0
    obtain ⟨b, rfl, wb⟩ := open_int' he h1
    exact ⟨a, b, rfl, wa, wb⟩
theorem open_int3 {W : World} {T E : TypeId} {v : Value} {d : DataW H} {p : List MemPlace} {b0 : Nat} (ht : P.underlying T = some (.array 3 E)) (hc : P.cellsOf E = 1) (hT : P.cellsOf T = 3) (he : P.underlying E = some (.int .i64))
    (hv : Value.okWide P W .any b0 T v) (h : DataW.Trod enc P W 0 (fun _ => true) true T v d p) :
    ∃ a b c : Int, v = .agg #[.int .i64 a, .int .i64 b, .int .i64 c] ∧ (-9223372036854775808 ≤ a ∧ a ≤ 9223372036854775807) ∧ (-9223372036854775808 ≤ b ∧ b ≤ 9223372036854775807) ∧ (-9223372036854775808 ≤ c ∧ c ≤ 9223372036854775807) := by
  obtain ⟨cs, rfl, hl, hx⟩ := open_arr ht hc hT hv h
  match cs, hl with
  | [x, y, z], _ =>
    obtain ⟨_, _, h0⟩ := hx 0 x rfl
    obtain ⟨_, _, h1⟩ := hx 1 y rfl
    obtain ⟨_, _, h2⟩ := hx 2 z rfl
    obtain ⟨a, rfl, wa⟩ := open_int' he h0
    obtain ⟨b, rfl, wb⟩ := open_int' he h1
    obtain ⟨c, rfl, wc⟩ := open_int' he h2
    exact ⟨a, b, c, rfl, wa, wb, wc⟩
theorem open_int4 {W : World} {T E : TypeId} {v : Value} {d : DataW H} {p : List MemPlace} {b0 : Nat} (ht : P.underlying T = some (.array 4 E)) (hc : P.cellsOf E = 1) (hT : P.cellsOf T = 4) (he : P.underlying E = some (.int .i64))
    (hv : Value.okWide P W .any b0 T v) (h : DataW.Trod enc P W 0 (fun _ => true) true T v d p) :
    ∃ a b c d' : Int, v = .agg #[.int .i64 a, .int .i64 b, .int .i64 c, .int .i64 d'] ∧ (-9223372036854775808 ≤ a ∧ a ≤ 9223372036854775807) ∧ (-9223372036854775808 ≤ b ∧ b ≤ 9223372036854775807) ∧ (-9223372036854775808 ≤ c ∧ c ≤ 9223372036854775807) ∧ (-9223372036854775808 ≤ d' ∧ d' ≤ 9223372036854775807) := by
  obtain ⟨cs, rfl, hl, hx⟩ := open_arr ht hc hT hv h
  match cs, hl with
  | [x, y, z, u], _ =>
    obtain ⟨_, _, h0⟩ := hx 0 x rfl
    obtain ⟨_, _, h1⟩ := hx 1 y rfl
    obtain ⟨_, _, h2⟩ := hx 2 z rfl
    obtain ⟨_, _, h3⟩ := hx 3 u rfl
    obtain ⟨a, rfl, wa⟩ := open_int' he h0
    obtain ⟨b, rfl, wb⟩ := open_int' he h1
    obtain ⟨c, rfl, wc⟩ := open_int' he h2
    obtain ⟨d', rfl, wd⟩ := open_int' he h3
    exact ⟨a, b, c, d', rfl, wa, wb, wc, wd⟩
/-- a slice of ints, as a reading. -/
def LI (W : World) (v : Value) : Prop := ∃ A c, ∃ xs : List Int, v = .slice A xs.length c ∧ xs.length ≤ c ∧ c ≤ 9223372036854775807 ∧ RD W W.heap.size A (ints xs) ∧ ∀ j, -9223372036854775808 ≤ ix xs j ∧ ix xs j ≤ 9223372036854775807
/-- arrays of two and three slices of ints. -/
theorem open_lists2 {W : World} {T E L : TypeId} {v : Value} {d : DataW H} {p : List MemPlace} {b0 : Nat} (ht : P.underlying T = some (.array 2 L)) (hc : P.cellsOf L = 1) (hT : P.cellsOf T = 2) (hL : P.underlying L = some (.slice E)) (he : P.underlying E = some (.int .i64)) (hE : P.cellsOf E = 1)
    (hv : Value.okWide P W .any b0 T v) (h : DataW.Trod enc P W 0 (fun _ => true) true T v d p) : ∃ x y, v = .agg #[x, y] ∧ LI W x ∧ LI W y := by
  obtain ⟨cs, rfl, hl, hx⟩ := open_arr ht hc hT hv h
  match cs, hl with
  | [x, y], _ =>
    obtain ⟨_, _, h0⟩ := hx 0 x rfl
    obtain ⟨_, _, h1⟩ := hx 1 y rfl
    exact ⟨x, y, rfl, open_list' hL he hE h0, open_list' hL he hE h1⟩
theorem open_lists3 {W : World} {T E L : TypeId} {v : Value} {d : DataW H} {p : List MemPlace} {b0 : Nat} (ht : P.underlying T = some (.array 3 L)) (hc : P.cellsOf L = 1) (hT : P.cellsOf T = 3) (hL : P.underlying L = some (.slice E)) (he : P.underlying E = some (.int .i64)) (hE : P.cellsOf E = 1)
    (hv : Value.okWide P W .any b0 T v) (h : DataW.Trod enc P W 0 (fun _ => true) true T v d p) : ∃ x y z, v = .agg #[x, y, z] ∧ LI W x ∧ LI W y ∧ LI W z := by
  obtain ⟨cs, rfl, hl, hx⟩ := open_arr ht hc hT hv h
  match cs, hl with
  | [x, y, z], _ =>
    obtain ⟨_, _, h0⟩ := hx 0 x rfl
    obtain ⟨_, _, h1⟩ := hx 1 y rfl
    obtain ⟨_, _, h2⟩ := hx 2 z rfl
    exact ⟨x, y, z, rfl, open_list' hL he hE h0, open_list' hL he hE h1, open_list' hL he hE h2⟩
/-- an int. -/
theorem open_i64 {W : World} {T : TypeId} {v : Value} {d : DataW H} {p : List MemPlace} {b0 : Nat} (ht : P.underlying T = some (.int .i64)) (hv : Value.okWide P W .any b0 T v) (h : DataW.Trod enc P W 0 (fun _ => true) true T v d p) :
    ∃ n : Int, v = .int .i64 n ∧ -9223372036854775808 ≤ n ∧ n ≤ 9223372036854775807 := by
  obtain ⟨n, rfl, _, _, wn⟩ := open_int ht hv h
  have := bounds_i64 wn
  exact ⟨n, rfl, this.1, this.2⟩
/-- a struct of two ints. -/
theorem open_pair {W : World} {T E : TypeId} {f0 f1 : Field} {v : Value} {d : DataW H} {p : List MemPlace} {b0 : Nat} (ht : P.underlying T = some (.struct #[f0, f1])) (h0 : f0.type = E) (h1 : f1.type = E) (hone : Go.Deep.oneCellFields P #[f0, f1] = true) (hc : P.cellsOf T = 2)
    (he : P.underlying E = some (.int .i64)) (hv : Value.okWide P W .any b0 T v) (h : DataW.Trod enc P W 0 (fun _ => true) true T v d p) :
    ∃ a b : Int, v = .agg #[.int .i64 a, .int .i64 b] ∧ (-9223372036854775808 ≤ a ∧ a ≤ 9223372036854775807) ∧ (-9223372036854775808 ≤ b ∧ b ≤ 9223372036854775807) := by
  obtain ⟨c0, c1, y0, y1, m, rfl, rfl, rfl, hy0, hy1⟩ := Joins.open_agg2 ht hone hc hv h
  rw [h0] at hy0
  rw [h1] at hy1
  obtain ⟨a, e0, rfl, wa⟩ := DataW.trod_int he hy0
  obtain ⟨b, e1, rfl, wb⟩ := DataW.trod_int he hy1
  simp at e0 e1
  subst e0 e1
  exact ⟨a, b, rfl, bounds_i64 wa, bounds_i64 wb⟩
end

theorem own : ownKnob Tryd.prog.godebug = none := by kernel_rfl
theorem laidOut : laidOutB Tryd.prog = true := by kernel_rfl
theorem cellsInt : Tryd.prog.cellsOf 3 = 1 := by kernel_rfl

end Go.Proofs.YtdlmdaononclgaaDoor
