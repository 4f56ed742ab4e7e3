import Derived.Test.YtdlmdaononclgaaAdded
import Derived.Test.YtdlmdaononclgaaLawPlaces
/- Appending a stretch of numbers; a boxed array of three numbers beside a slice of the call's own. -/
namespace Go.Proofs.Ytdlmdaononclgaa
open Go.RowKit
set_option linter.unusedVariables false
set_option linter.unusedSimpArgs false

variable {w : World}
theorem wpList_appN {ops : Array Oper} {rest : List Oper} {o : Oper} {a : Act} {Q : Exit → Act → World → Prop} (hgd : o.guard = none) (s x : Operand)
    (ho : o.op = .call { callee := .builtin .append, args := #[s, x], argTypes := #[22, 22] })
    (base : Nat) (v : Value) (xs : List Int) (hs : a.eval s = v) (hown : OwnI w base v xs) (b off m c : Nat) (ys : List Int) (hm : ys.length = m) (hx : a.eval x = .slice (some ⟨b, off, none⟩) m c)
    (hc : ∀ j, j < m → w.cell? ⟨b, off + j, none⟩ = some (.int .i64 (ix ys j)))
    (hlen : xs.length + m ≤ 1000000) (hbase : base ≤ w.heap.size)
    (h : ∀ v' w', OwnI w' base v' (xs ++ ys) → w.grownBy w' v.ownBlock → wpList Try.prog ops Q rest (a.put o.dst v') w') : wpList Try.prog ops Q (o :: rest) a w := by
  subst hm
  obtain ⟨i0, hi, hz0, hz1, hz2⟩ := info_parts infoInt
  refine wpList_plain hgd fun K hK => ?_
  obtain ⟨v', w', hrun, h2, h3, _⟩ := run_append_own (P := Try.prog) w base 22 o.type 3 i0 (.int .i64 0) 1 8 Try.underlying22 hi hz0 hz1 hz2 rfl (by decide) v xs.length (ints xs) hown
    ⟨b, off, none⟩ ys.length c (ints ys) (by rw [ints_length]; omega) (fun j u hu => by
      rw [Addr.add_lit]
      have hj : j < ys.length := by have := (List.getElem?_eq_some_iff.1 hu).1; rwa [ints_length] at this
      rw [hc j hj]
      rw [ints_get, List.getElem?_eq_getElem hj] at hu
      rw [← hu]; simp [ix, List.getD, List.getElem?_eq_getElem hj]) (fun u hu => by simp only [ints, List.mem_map] at hu; obtain ⟨z, _, rfl⟩ := hu; rfl) (by unfold maxLen; omega) (by omega) hbase
  unfold Oper.wp execOp
  simp only [ho, resolve, invoke, builtin, Sem.run_bind, Sem.run_pure, Result.andThen_ok, List.map_toArray, List.map_cons, List.map_nil, hs, hx, hrun]
  refine hK _ _ (h v' w' ?_ h3)
  unfold OwnI
  rw [List.length_append]
  simpa [ints] using h2

theorem ownI_nil0 (W : World) (base : Nat) (hb : base ≤ W.heap.size) : OwnI (W.alloc (.cells #[] 3)) base (.slice (some ⟨W.heap.size, 0, none⟩) 0 0) [] :=
  ⟨rfl, .inr ⟨W.heap.size, 0, #[], rfl, hb, heap_alloc_new W _, Nat.le_refl _, by unfold maxLen; omega, rfl, rfl⟩⟩

/-- a box of three numbers at the base, and a slice of the call's own behind it. -/
structure XS (w : World) (v : Value) (ps l : List Int) (V : World) : Prop where
  lc : V.heap[w.heap.size]? = some (.cells (ints l).toArray 53 (0, 0))
  own : OwnI V (w.heap.size + 1) v ps
  below : Below w.heap.size w V
theorem XS.keep {v : Value} {ps l : List Int} {V V' : World} (h : XS w v ps l V) (hb : Below V.heap.size V V') : XS w v ps l V' :=
  ⟨(hb.block _ (Array.getElem?_eq_some_iff.1 h.lc).1).trans h.lc, h.own.kept hb (Nat.le_refl _), below_step hb h.below h.below.size⟩
theorem XS.lt {v : Value} {ps l : List Int} {V : World} (h : XS w v ps l V) : w.heap.size < V.heap.size := (Array.getElem?_eq_some_iff.1 h.lc).1
theorem XS.cell {v : Value} {ps l : List Int} {V : World} (h : XS w v ps l V) (j : Nat) (hj : j < l.length) : V.cell? ⟨w.heap.size, j, none⟩ = some (.int .i64 (ix l j)) := by
  rw [cell_of_row V _ j _ _ _ h.lc, List.getElem?_toArray, ints_get, List.getElem?_eq_getElem hj]
  simp [ix, List.getD, List.getElem?_eq_getElem hj]
theorem XS.free {v : Value} {ps l : List Int} {V : World} (h : XS w v ps l V) (j : Nat) : V.frozen? ⟨w.heap.size, j, none⟩ = false := by
  have := h.lc
  simp [World.frozen?, this]
theorem XS.set {v : Value} {ps l : List Int} {V : World} (h : XS w v ps l V) (j : Nat) (x : Int) : XS w v ps (l.set j x) (V.setCell ⟨w.heap.size, j, none⟩ (.int .i64 x)) := by
  refine ⟨?_, ownsRow_setCell_below h.own (by show w.heap.size < w.heap.size + 1; omega) _, h.below.setCell (Nat.le_refl _) _⟩
  have := h.lc
  simp [World.setCell, Array.getElem?_modify, this, ints, List.map_set]
theorem OwnI.rd {base n c : Nat} {A : Option Addr} {ps : List Int} (h : OwnI w base (.slice A n c) ps) : RD w w.heap.size A (ints ps) := by
  obtain ⟨A', c', h1, _, _, h4, _⟩ := h.form
  cases h1; exact h4

theorem appN_below {w0 wr w1 : World} {o : Obj} {n c : Nat} (hB : Below w0.heap.size w0 wr) (hg : (wr.alloc o).grownBy w1 (Value.slice (some ⟨wr.heap.size, 0, none⟩) n c).ownBlock) : Below w0.heap.size w0 w1 :=
  (hB.alloc hB.size o).grown hg (by have := hB.size; simp; omega) (fun k e => by simp only [Value.ownBlock, Option.some.injEq] at e; have := hB.size; omega)
/-- whether the first k groups have two intervals each. -/
def allG (gs : List (Int × Int)) (k : Nat) : Bool := (gs.take k).all fun p => p.2 == 2
theorem allG_succ {gs : List (Int × Int)} {k : Nat} (h : k < gs.length) : allG gs (k + 1) = (allG gs k && (gx gs k).2 == 2) := by
  have hg := gx_get h
  unfold allG
  rw [List.take_add_one, hg]
  simp [List.all_append]
theorem allG_all {gs : List (Int × Int)} (h : allG gs gs.length = true) : ∀ p ∈ gs, p.2 = 2 := fun p hp => by
  unfold allG at h
  rw [List.take_length] at h
  simpa using List.all_eq_true.1 h p hp

end Go.Proofs.Ytdlmdaononclgaa
