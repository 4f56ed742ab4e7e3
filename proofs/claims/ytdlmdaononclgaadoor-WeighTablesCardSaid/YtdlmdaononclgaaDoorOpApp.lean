import Derived.Test.YtdlmdaononclgaaDoorMC
import Derived.Test.YtdlmdaononclgaaDoorMB
import Derived.Deep.RegionLawGrows
import Derived.Outline
/- append to an own slice, in a region that draws its order. -/
namespace Go.Proofs.YtdlmdaononclgaaDoor
open Go.RowKit
set_option linter.unusedVariables false
set_option linter.unusedSimpArgs false
variable {w : World}
/-- append(v, ..) to an own slice, in a region that draws. -/
theorem op_app1 {ops : Array Oper} {o : Oper} {a : Act} {K : Act → World → Prop} {Q : Exit → Act → World → Prop} {E : Prop} (hgd : o.guard = none) (s x : Operand)
    (ho : o.op = .call { callee := .builtin .append, args := #[s, x], argTypes := #[22, 22] })
    (base : Nat) (v : Value) (xs : List Int) (hs : a.eval s = v) (hown : OwnI w base v xs) (b off m c n : Nat) (ys : List Int) (hm : ys.length = m) (hn : (xs ++ ys).length = n) (hx : a.eval x = .slice (some ⟨b, off, none⟩) m c)
    (hc : ∀ j, j < m → w.cell? ⟨b, off + j, none⟩ = some (.int .i64 (ix ys j)))
    (hlen : n ≤ 1000000) (hbase : base ≤ w.heap.size)
    (h : ∀ A cap w', n ≤ cap → cap ≤ 9223372036854775807 → OwnI w' base (.slice A n cap) (xs ++ ys) → w.grownBy w' v.ownBlock → K (a.put o.dst (.slice A n cap)) w') :
    if Region.wanted o (yielded ops a.tmps) = true then Oper.wp Tryd.prog o a w K Q else E := by
  subst hm
  rw [List.length_append] at hn
  have hw : Region.wanted o (yielded ops a.tmps) = true := by simp [Region.wanted, hgd]
  rw [if_pos hw]
  obtain ⟨i0, hi, hz0, hz1, hz2⟩ := info_parts infoInt
  obtain ⟨v', w', hrun, h2, h3, _⟩ := run_append_own (P := Tryd.prog) w base 22 o.type 3 i0 (.int .i64 0) 1 8 Tryd.underlying22 hi hz0 hz1 hz2 rfl (by decide) v xs.length (ints xs) hown
    ⟨b, off, none⟩ ys.length c (ints ys) (by rw [ints_length]; omega) (fun j u hu => by
      rw [Addr.add_lit]
      have hj : j < ys.length := by have := (List.getElem?_eq_some_iff.1 hu).1; rwa [ints_length] at this
      rw [hc j hj]
      rw [ints_get, List.getElem?_eq_getElem hj] at hu
      rw [← hu]; simp [ix, List.getD, List.getElem?_eq_getElem hj]) (fun u hu => by simp only [ints, List.mem_map] at hu; obtain ⟨z, _, rfl⟩ := hu; rfl) (by unfold maxLen; omega) (by omega) hbase
  unfold Oper.wp execOp
  simp only [ho, resolve, invoke, builtin, Sem.run_bind, Sem.run_pure, Result.andThen_ok, List.map_toArray, List.map_cons, List.map_nil, hs, hx, hrun]
  have h4 : OwnI w' base v' (xs ++ ys) := by
    unfold OwnI
    rw [List.length_append]
    simpa [ints] using h2
  obtain ⟨A, cap, rfl, g1, g2, _⟩ := h4.form
  rw [List.length_append, hn] at g1 h4 ⊢
  exact h A cap w' g1 g2 h4 h3

/-- []int{x}, fresh. -/
theorem ownI_one (W : World) (base : Nat) (hb : base ≤ W.heap.size) (x : Int) : OwnI (W.alloc (.cells #[.int .i64 x] 3)) base (.slice (some ⟨W.heap.size, 0, none⟩) 1 1) [x] :=
  ⟨rfl, .inr ⟨W.heap.size, 1, #[.int .i64 x], rfl, hb, heap_alloc_new W _, Nat.le_refl _, by unfold maxLen; omega, rfl, rfl⟩⟩
theorem app1_below {w0 W w1 : World} {o : Obj} {n c : Nat} (hB : Below w0.heap.size w0 W) (hg : (W.alloc o).grownBy w1 (Value.slice (some ⟨W.heap.size, 0, none⟩) n c).ownBlock) : Below w0.heap.size w0 w1 :=
  (hB.alloc hB.size o).grown hg (by have := hB.size; simp; omega) (fun k e => by simp only [Value.ownBlock, Option.some.injEq] at e; have := hB.size; omega)
theorem OwnI.rd1 {base n c : Nat} {A : Option Addr} {ps : List Int} (h : OwnI w base (.slice A n c) ps) : RD w w.heap.size A (ints ps) := by
  obtain ⟨A', c', h1, _, _, h4, _⟩ := h.form
  cases h1; exact h4

end Go.Proofs.YtdlmdaononclgaaDoor
