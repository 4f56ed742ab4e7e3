import Derived.Test.YtdlmdaononclgaaWtP
import Derived.Maps.AppendAt
/- Appending one number to a slice of the call's own. -/
namespace Go.Proofs.Ytdlmdaononclgaa
open Go.RowKit
set_option linter.unusedVariables false
set_option linter.unusedSimpArgs false

/-- the slice value v is the call's own (from block base on) and holds xs. -/
def OwnI (w : World) (base : Nat) (v : Value) (xs : List Int) : Prop := w.ownsRow base 3 1 v xs.length (ints xs)
theorem OwnI.nil (w : World) (base : Nat) : OwnI w base (.slice none 0 0) [] := World.ownsRow_nil w base _ _
theorem OwnI.form {w : World} {base : Nat} {v : Value} {xs : List Int} (h : OwnI w base v xs) :
    ∃ A cap, v = .slice A xs.length cap ∧ xs.length ≤ cap ∧ cap ≤ 9223372036854775807 ∧ RD w w.heap.size A (ints xs) ∧ (∀ b off, A = some ⟨b, off, none⟩ → base ≤ b ∧ v.ownBlock = some b) ∧ (∀ b, v.ownBlock = some b → base ≤ b ∧ b < w.heap.size) := by
  rcases h.2 with ⟨rfl, hn⟩ | ⟨g, cap, cur, rfl, hb, hg, hn, hm, hs, ht⟩
  · have : xs = [] := List.eq_nil_of_length_eq_zero hn
    subst this
    exact ⟨none, 0, rfl, by simp, by omega, .inl rfl, (fun b off e => by cases e), (fun b e => by cases e)⟩
  · have hlt : g < w.heap.size := (Array.getElem?_eq_some_iff.1 hg).1
    refine ⟨some ⟨g, 0, none⟩, cap, rfl, hn, by unfold maxLen at hm; omega, ?_, (fun b off e => by cases e; exact ⟨hb, rfl⟩), (fun b e => by simp only [Value.ownBlock, Option.some.injEq] at e; omega)⟩
    by_cases h0 : xs.length = 0
    · left; have : xs = [] := List.eq_nil_of_length_eq_zero h0; subst this; rfl
    · refine .inr ⟨g, 0, rfl, hlt, fun j v hv => ?_⟩
      have := h.cells (g := g) rfl j v hv
      rwa [Addr.add_lit] at this
theorem OwnI.kept {w w' : World} {base : Nat} {v : Value} {xs : List Int} (h : OwnI w base v xs) {B : Nat} (hb : Below B w w') (hB : w.heap.size ≤ B) : OwnI w' base v xs := by
  refine ⟨h.1, ?_⟩
  rcases h.2 with hn | ⟨g, cap, cur, rfl, h1, hg, rest⟩
  · exact .inl hn
  · exact .inr ⟨g, cap, cur, rfl, h1, (hb.block g (by have := (Array.getElem?_eq_some_iff.1 hg).1; omega)).trans hg, rest⟩

theorem cell_new1 (w : World) (v : Value) (t : TypeId) : (w.alloc (.cells #[v] t)).cell? ⟨w.heap.size, 0, none⟩ = some v := by
  rw [cell_of_row _ w.heap.size 0 _ _ _ (heap_alloc_new w _)]; rfl

theorem app_below {w0 wr w1 : World} {v : Value} {xs : List Int} {o : Obj} (hB : Below w0.heap.size w0 wr) (ho : OwnI wr w0.heap.size v xs) (hg : (wr.alloc o).grownBy w1 v.ownBlock) : Below w0.heap.size w0 w1 := by
  obtain ⟨A, cap, rfl, _, _, _, _, h⟩ := ho.form
  exact (hB.alloc hB.size o).grown hg (by have := hB.size; simp; omega) (fun k e => (h k e).1)

variable {w : World}

theorem wpList_app1 {ops : Array Oper} {rest : List Oper} {o : Oper} {a : Act} {Q : Exit → Act → World → Prop} (hgd : o.guard = none) (s x : Operand)
    (ho : o.op = .call { callee := .builtin .append, args := #[s, x], argTypes := #[22, 22] })
    (base : Nat) (v : Value) (xs : List Int) (hs : a.eval s = v) (hown : OwnI w base v xs) (g c : Nat) (y : Int) (hx : a.eval x = .slice (some ⟨g, 0, none⟩) 1 c) (hc : w.cell? ⟨g, 0, none⟩ = some (.int .i64 y))
    (hlen : xs.length ≤ 1000000) (hbase : base ≤ w.heap.size)
    (h : ∀ v' w', OwnI w' base v' (xs ++ [y]) → w.grownBy w' v.ownBlock → wpList Try.prog ops Q rest (a.put o.dst v') w') : wpList Try.prog ops Q (o :: rest) a w := by
  obtain ⟨i0, hi, hz0, hz1, hz2⟩ := info_parts infoInt
  refine wpList_plain hgd fun K hK => ?_
  obtain ⟨v', w', hrun, h2, h3, _⟩ := run_append_own (P := Try.prog) w base 22 o.type 3 i0 (.int .i64 0) 1 8 Try.underlying22 hi hz0 hz1 hz2 rfl (by decide) v xs.length (ints xs) hown
    ⟨g, 0, none⟩ 1 c [.int .i64 y] rfl (fun j u hu => by
      match j, hu with
      | 0, hu => simp at hu; subst hu; exact hc) (by simp [Value.oneCell']) (by unfold maxLen; omega) (by omega) hbase
  unfold Oper.wp execOp
  simp only [ho, resolve, invoke, builtin, Sem.run_bind, Sem.run_pure, Result.andThen_ok, List.map_toArray, List.map_cons, List.map_nil, hs, hx, hrun]
  refine hK _ _ (h v' w' ?_ h3)
  unfold OwnI
  rw [List.length_append]
  simpa [ints] using h2

end Go.Proofs.Ytdlmdaononclgaa
