import Derived.Test.YtdlmdaononclgaaDoorRefG
import Derived.Test.YtdlmdaononclgaaDoorWt3
import Derived.Maps.OwnIn
import Derived.RangeFuncBox
/- Collecting the groups: slices.AppendSeq, slices.Collect; the program's Groups. -/
namespace Go.Proofs.YtdlmdaononclgaaDoor
open Go.RowKit
set_option linter.unusedVariables false
set_option linter.unusedSimpArgs false
attribute [local go_sem] Oper.semAt_some

theorem OwnG.of_block {w w' : World} {base : Nat} {v : Value} {gs : List (Int × Int)} (h : OwnG w base v gs) (hb : ∀ b, v.ownBlock = some b → w'.heap[b]? = w.heap[b]?) : OwnG w' base v gs := by
  refine ⟨h.1, ?_⟩
  rcases h.2 with hn | ⟨g, cap, cur, rfl, h1, hg, rest⟩
  · exact .inl hn
  · exact .inr ⟨g, cap, cur, rfl, h1, (hb g rfl).trans hg, rest⟩
theorem OwnG.less {w : World} {base base' : Nat} {v : Value} {gs : List (Int × Int)} (h : OwnG w base v gs) (hb : base' ≤ base) : OwnG w base' v gs := by
  refine ⟨h.1, ?_⟩
  rcases h.2 with hn | ⟨g, cap, cur, rfl, h1, rest⟩
  · exact .inl hn
  · exact .inr ⟨g, cap, cur, rfl, by omega, rest⟩
theorem OwnG.lt {w : World} {base : Nat} {v : Value} {gs : List (Int × Int)} (h : OwnG w base v gs) : ∀ b, v.ownBlock = some b → base ≤ b ∧ b < w.heap.size := by
  obtain ⟨_, _, _, _, _, _, _, hb⟩ := h.form
  exact hb

variable {w : World}
/-- appending one group to an own slice, in a round. -/
theorem wpListIn_appG {F : Fence} {nF : Nat} {ops : Array Oper} {rest : List Oper} {o : Oper} {a : Act} {Q : Exit → Act → World → Prop} (hgd : o.guard = none) (s x : Operand)
    (ho : o.op = .call { callee := .builtin .append, args := #[s, x], argTypes := #[69, 69] })
    (base : Nat) (v : Value) (gs : List (Int × Int)) (hs : a.eval s = v) (hown : OwnG w base v gs) (g c : Nat) (y z : Int) (hx : a.eval x = .slice (some ⟨g, 0, none⟩) 1 c)
    (hc0 : w.cell? ⟨g, 0, none⟩ = some (.int .i64 y)) (hc1 : w.cell? ⟨g, 1, none⟩ = some (.int .i64 z))
    (hlen : gs.length ≤ 1000000) (hbase : base ≤ w.heap.size)
    (h : ∀ v' w', OwnG w' base v' (gs ++ [(y, z)]) → w.grownBy w' v.ownBlock → (v'.ownBlock = v.ownBlock ∨ v'.ownBlock = some w.heap.size) → wpListIn F nF Tryd.prog ops Q rest (a.put o.dst v') w') : wpListIn F nF Tryd.prog ops Q (o :: rest) a w := by
  obtain ⟨i0, hi, hz0, hz1, hz2⟩ := info_parts infoGroup
  refine wpListIn_append_own_at w hgd s x 69 ho base 72 i0 _ 2 16 Tryd.underlying69 hi hz0 hz1 hz2 rfl (by decide) v gs.length (gcells gs) hs hown
    ⟨g, 0, none⟩ 1 c [.int .i64 y, .int .i64 z] hx rfl (fun j u hu => by
      match j, hu with
      | 0, hu => simp at hu; subst hu; exact hc0
      | 1, hu => simp at hu; subst hu; exact hc1) (by simp [Value.oneCell']) (by unfold maxLen; omega) (by omega) hbase ?_
  intro v' w' h2 h3 _ h5
  refine h v' w' ?_ h3 h5
  unfold OwnG
  rw [List.length_append, gcells_append]
  exact h2

/-- what holds between two rounds of AppendSeq: the box holds what has been collected. -/
structure CI (w : World) (gs : List (Int × Int)) (i : Nat) (Y : Nat → Prop) (W : World) : Prop where
  box : ∃ v, W.heap[w.heap.size]? = some (.cells #[v] 69 (0, 0)) ∧ OwnG W (w.heap.size + 1) v (gs.take i) ∧ ∀ k, Y k ↔ (k = w.heap.size ∨ v.ownBlock = some k)
  below : Below w.heap.size w W
theorem CI.size {w : World} {gs : List (Int × Int)} {i : Nat} {Y : Nat → Prop} {W : World} (h : CI w gs i Y W) : w.heap.size < W.heap.size := by
  obtain ⟨v, hb, _⟩ := h.box
  exact (Array.getElem?_eq_some_iff.1 hb).1
theorem CI.keep {w : World} {gs : List (Int × Int)} {i D : Nat} {Y : Nat → Prop} {W W' : World} (h : CI w gs i Y W) (k : Keep D Y W W') (hD : w.heap.size + 1 ≤ D) : CI w gs i Y W' := by
  have hs := h.size
  obtain ⟨v, hb, ho, hY⟩ := h.box
  exact ⟨⟨v, (k.block _ hs (.inl (by omega))).trans hb, ho.of_block (fun b hbb => k.block b (ho.lt b hbb).2 (.inr ((hY b).2 (.inr hbb)))), hY⟩, k.below (by omega) h.below (by omega)⟩
/-- one more has been collected. -/
theorem CI.next {w : World} {gs : List (Int × Int)} {i : Nat} {Y : Nat → Prop} {W w1 : World} {x : Int × Int} {v v' : Value} {o : Obj} (h : CI w gs i Y W) (hx : gs[i]? = some x) (hb : W.heap[w.heap.size]? = some (.cells #[v] 69 (0, 0)))
    (ho : OwnG w1 (w.heap.size + 1) v' (gs.take i ++ [x])) (hg : (W.alloc o).grownBy w1 v.ownBlock) (hv : v'.ownBlock = v.ownBlock ∨ v'.ownBlock = some (W.alloc o).heap.size) :
    ∃ Y', CI w gs (i + 1) Y' (w1.setCell ⟨w.heap.size, 0, none⟩ v') ∧ Round Y Y' W (w1.setCell ⟨w.heap.size, 0, none⟩ v') := by
  have hs := h.size
  obtain ⟨v2, hb2, ho2, hY⟩ := h.box
  obtain rfl : v2 = v := by rw [hb2] at hb; simpa using hb
  have hlt := ho2.lt
  have hlt' := ho.lt
  have hsz := hg.size
  rw [World.size_alloc] at hsz hv
  have hbk : ∀ k, k < W.heap.size → ¬ Y k → (w1.setCell ⟨w.heap.size, 0, none⟩ v').heap[k]? = W.heap[k]? := fun k hk hn => by
    rw [Below.heap_setCell _ _ _ _ (fun e => hn ((hY k).2 (.inl e)))]
    rw [hg.block k (by rw [World.size_alloc]; omega) (fun e => hn ((hY k).2 (.inr e.symm)))]
    exact Below.heap_alloc _ _ _ hk
  have hbox : w1.heap[w.heap.size]? = some (.cells #[v2] 69 (0, 0)) := by
    rw [hg.block w.heap.size (by rw [World.size_alloc]; omega) (fun e => by have := (hlt _ e.symm).1; omega), Below.heap_alloc _ _ _ hs]; exact hb2
  refine ⟨fun k => k = w.heap.size ∨ v'.ownBlock = some k, ⟨⟨v', ?_, ?_, fun k => Iff.rfl⟩, ?_⟩, ⟨?_, ?_, ?_, ?_, hbk, ?_, ?_⟩⟩
  · simp [World.setCell, Array.getElem?_modify, hbox]
  · rw [List.take_add_one, hx]
    exact ho.of_block (fun b hbb => Below.heap_setCell _ _ _ _ (fun e => by have := (hlt' b hbb).1; simp only at e; omega))
  · exact h.below.trans ⟨hg.os, hg.tape, hg.output, by simp [World.setCell]; omega, fun k hk => hbk k (by omega) (fun hy => by
      rcases (hY k).1 hy with e | e
      · omega
      · have := (hlt k e).1; omega)⟩
  · exact hg.os
  · exact hg.tape
  · exact hg.output
  · simp [World.setCell]; omega
  · intro k hk
    rcases hk with rfl | e
    · exact .inl ((hY _).2 (.inl rfl))
    · rcases hv with e2 | e2
      · exact .inl ((hY _).2 (.inr (e2 ▸ e)))
      · rw [e2] at e; simp only [Option.some.injEq] at e; right; omega
  · intro k hk
    rcases hk with rfl | e
    · simp [World.setCell]; omega
    · have := (hlt' k e).2; simpa [World.setCell] using this

end Go.Proofs.YtdlmdaononclgaaDoor
