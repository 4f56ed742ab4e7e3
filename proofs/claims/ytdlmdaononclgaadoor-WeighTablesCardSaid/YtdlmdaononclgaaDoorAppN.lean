import Derived.Test.YtdlmdaononclgaaDoorAdded
import Derived.Test.YtdlmdaononclgaaDoorLawPlaces
/- Appending a stretch of numbers; a boxed array of three numbers beside a slice of the call's own. -/
namespace Go.Proofs.YtdlmdaononclgaaDoor
open Go.RowKit
set_option linter.unusedVariables false
set_option linter.unusedSimpArgs false

variable {w : World}
theorem wpList_appN {ops : Array Oper} {rest : List Oper} {o : Oper} {a : Act} {Q : Exit → Act → World → Prop} (hgd : o.guard = none) (s x : Operand)
    (ho : o.op = .call { callee := .builtin .append, args := #[s, x], argTypes := #[22, 22] })
    (base : Nat) (v : Value) (xs : List Int) (hs : a.eval s = v) (hown : OwnI w base v xs) (b off m c : Nat) (ys : List Int) (hm : ys.length = m) (hx : a.eval x = .slice (some ⟨b, off, none⟩) m c)
    (hc : ∀ j, j < m → w.cell? ⟨b, off + j, none⟩ = some (.int .i64 (ix ys j)))
    (hlen : xs.length + m ≤ 1000000) (hbase : base ≤ w.heap.size)
    (h : ∀ v' w', OwnI w' base v' (xs ++ ys) → w.grownBy w' v.ownBlock → wpList Tryd.prog ops Q rest (a.put o.dst v') w') : wpList Tryd.prog ops Q (o :: rest) a w := by
  subst hm
  obtain ⟨i0, hi, hz0, hz1, hz2⟩ := info_parts infoInt
  refine wpList_plain hgd fun K hK => ?_
  obtain ⟨v', w', hrun, h2, h3, _⟩ := run_append_own (P := Tryd.prog) w base 22 o.type 3 i0 (.int .i64 0) 1 8 Tryd.underlying22 hi hz0 hz1 hz2 rfl (by decide) v xs.length (ints xs) hown
    ⟨b, off, none⟩ ys.length c (ints ys) (by rw [ints_length]; omega) (fun j u hu => by
      rw [Addr.add_lit]
      have hj : j < ys.length := by have := (List.getElem?_eq_some_iff.1 hu).1; rwa [ints_length] at this
      rw [hc j hj]
      rw [ints_get, List.getElem?_eq_getElem hj] at hu
      rw [← hu]; simp [ix, List.getD, List.getElem?_eq_getElem hj]) (fun u hu => by simp only [ints, List.mem_map] at hu; obtain ⟨z, _, rfl⟩ := hu; rfl) (by unfold maxLen; omega) (by omega) hbase
  unfold Oper.wp execOp
  simp only [ho, resolve, invoke, builtin, Sem.run_bind, Sem.run_pure, Result.andThen_ok, List.map_toArray, List.map_cons, List.map_nil, hs, hx, hrun]
  refine hK _ _ (h v' w' ?_ h3)
  unfold OwnI
  rw [List.length_append]
  simpa [ints] using h2

theorem ownI_nil0 (W : World) (base : Nat) (hb : base ≤ W.heap.size) : OwnI (W.alloc (.cells #[] 3)) base (.slice (some ⟨W.heap.size, 0, none⟩) 0 0) [] :=
  ⟨rfl, .inr ⟨W.heap.size, 0, #[], rfl, hb, heap_alloc_new W _, Nat.le_refl _, by unfold maxLen; omega, rfl, rfl⟩⟩

theorem OwnI.rd {base n c : Nat} {A : Option Addr} {ps : List Int} (h : OwnI w base (.slice A n c) ps) : RD w w.heap.size A (ints ps) := by
  obtain ⟨A', c', h1, _, _, h4, _⟩ := h.form
  cases h1; exact h4

theorem appN_below {w0 wr w1 : World} {o : Obj} {n c : Nat} (hB : Below w0.heap.size w0 wr) (hg : (wr.alloc o).grownBy w1 (Value.slice (some ⟨wr.heap.size, 0, none⟩) n c).ownBlock) : Below w0.heap.size w0 w1 :=
  (hB.alloc hB.size o).grown hg (by have := hB.size; simp; omega) (fun k e => by simp only [Value.ownBlock, Option.some.injEq] at e; have := hB.size; omega)
/-- whether the first k groups have two intervals each. -/
def allG (gs : List (Int × Int)) (k : Nat) : Bool := (gs.take k).all fun p => p.2 == 2
theorem allG_succ {gs : List (Int × Int)} {k : Nat} (h : k < gs.length) : allG gs (k + 1) = (allG gs k && (gx gs k).2 == 2) := by
  have hg := gx_get h
  unfold allG
  rw [List.take_add_one, hg]
  simp [List.all_append]
theorem allG_all {gs : List (Int × Int)} (h : allG gs gs.length = true) : ∀ p ∈ gs, p.2 = 2 := fun p hp => by
  unfold allG at h
  rw [List.take_length] at h
  simpa using List.all_eq_true.1 h p hp

end Go.Proofs.YtdlmdaononclgaaDoor
