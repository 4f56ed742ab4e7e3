import Derived.Test.YtdlmdaononclgaaDoorMC
import Derived.Test.YtdlmdaononclgaaDoorGridP
/- A slice of slices of the call's own, to which rows are appended. -/
namespace Go.Proofs.YtdlmdaononclgaaDoor
open Go.RowKit
set_option linter.unusedVariables false
set_option linter.unusedSimpArgs false

def OwnR (w : World) (base : Nat) (v : Value) (vs : List Value) : Prop := w.ownsRow base 22 1 v vs.length vs
theorem OwnR.nil (w : World) (base : Nat) : OwnR w base (.slice none 0 0) [] := World.ownsRow_nil w base _ _
theorem OwnR.form {w : World} {base : Nat} {v : Value} {vs : List Value} (h : OwnR w base v vs) :
    ∃ A cap, v = .slice A vs.length cap ∧ vs.length ≤ cap ∧ cap ≤ 9223372036854775807 ∧ RD w w.heap.size A vs ∧ (∀ b, v.ownBlock = some b → base ≤ b ∧ b < w.heap.size) := by
  rcases h.2 with ⟨rfl, hn⟩ | ⟨g, cap, cur, rfl, hb, hg, hn, hm, hs, ht⟩
  · have : vs = [] := List.eq_nil_of_length_eq_zero hn
    subst this
    exact ⟨none, 0, rfl, by simp, by omega, .inl rfl, (fun b e => by cases e)⟩
  · have hlt : g < w.heap.size := (Array.getElem?_eq_some_iff.1 hg).1
    refine ⟨some ⟨g, 0, none⟩, cap, rfl, hn, by unfold maxLen at hm; omega, ?_, (fun b e => by simp only [Value.ownBlock, Option.some.injEq] at e; omega)⟩
    by_cases h0 : vs.length = 0
    · left; exact List.eq_nil_of_length_eq_zero h0
    · refine .inr ⟨g, 0, rfl, hlt, fun j v hv => ?_⟩
      have := h.cells (g := g) rfl j v hv
      rwa [Addr.add_lit] at this
theorem OwnR.kept {w w' : World} {base : Nat} {v : Value} {vs : List Value} (h : OwnR w base v vs) {B : Nat} (hb : Below B w w') (hB : w.heap.size ≤ B) : OwnR w' base v vs := by
  refine ⟨h.1, ?_⟩
  rcases h.2 with hn | ⟨g, cap, cur, rfl, h1, hg, rest⟩
  · exact .inl hn
  · exact .inr ⟨g, cap, cur, rfl, h1, (hb.block g (by have := (Array.getElem?_eq_some_iff.1 hg).1; omega)).trans hg, rest⟩
theorem OwnR.kind {w : World} {base : Nat} {v : Value} {vs : List Value} (h : OwnR w base v vs) {b : Nat} (hb : v.ownBlock = some b) : ∃ cs, w.heap[b]? = some (.cells cs 22 (0, 0)) := by
  rcases h.2 with ⟨rfl, _⟩ | ⟨g, cap, cur, rfl, _, hg, _⟩
  · cases hb
  · simp only [Value.ownBlock, Option.some.injEq] at hb
    subst hb
    exact ⟨_, hg⟩
theorem OwnI.less {w : World} {base base' : Nat} {v : Value} {xs : List Int} (h : OwnI w base v xs) (hb : base' ≤ base) : OwnI w base' v xs := by
  refine ⟨h.1, ?_⟩
  rcases h.2 with hn | ⟨g, cap, cur, rfl, h1, rest⟩
  · exact .inl hn
  · exact .inr ⟨g, cap, cur, rfl, by omega, rest⟩

/-- v holds rows, all of the call's own from block base on. -/
structure RO (w : World) (base : Nat) (v : Value) (vs : List Value) (rs : List (List Int)) : Prop where
  own : OwnR w base v vs
  len : vs.length = rs.length
  each : ∀ i, i < rs.length → OwnI w base (vx vs i) (rx rs i)
theorem RO.nil (w : World) (base : Nat) : RO w base (.slice none 0 0) [] [] := ⟨OwnR.nil w base, rfl, fun i h => by simp at h⟩
theorem RO.kept {w w' : World} {base : Nat} {v : Value} {vs : List Value} {rs : List (List Int)} (h : RO w base v vs rs) {B : Nat} (hb : Below B w w') (hB : w.heap.size ≤ B) : RO w' base v vs rs :=
  ⟨h.own.kept hb hB, h.len, fun i hi => (h.each i hi).kept hb hB⟩
theorem OwnI.at_block {w : World} {base : Nat} {v : Value} {xs : List Int} (h : OwnI w base v xs) {b : Nat} (hb : v.ownBlock = some b) : base ≤ b ∧ b < w.heap.size := by
  obtain ⟨_, _, _, _, _, _, _, h2⟩ := h.form
  exact h2 b hb
/-- one row more. -/
theorem RO.push {W W' : World} {base : Nat} {v v' u : Value} {vs : List Value} {rs : List (List Int)} {ys : List Int} {o : Obj} (h : RO W base v vs rs) (hr : OwnI W base u ys) (hg : (W.alloc o).grownBy W' v.ownBlock) (ho : OwnR W' base v' (vs ++ [u])) :
    RO W' base v' (vs ++ [u]) (rs ++ [ys]) := by
  have keep : ∀ (x : Value) (xs : List Int), OwnI W base x xs → OwnI W' base x xs := fun x xs hx => hx.of_block (fun b hb => by
    have hlt := hx.at_block hb
    have hne : v.ownBlock ≠ some b := fun e => by
      obtain ⟨c1, h1⟩ := hx.kind hb
      obtain ⟨c2, h2⟩ := h.own.kind e
      rw [h1] at h2
      simp only [Option.some.injEq, Obj.cells.injEq] at h2
      exact absurd h2.2.1 (by decide)
    rw [hg.block b (by rw [World.size_alloc]; omega) (fun e => hne e.symm)]
    exact Below.heap_alloc W o b hlt.2)
  refine ⟨ho, by simp [h.len], fun i hi => ?_⟩
  simp only [List.length_append, List.length_cons, List.length_nil] at hi
  have hl := h.len
  by_cases e : i < rs.length
  · have e1 : vx (vs ++ [u]) i = vx vs i := by simp [vx, List.getD, List.getElem?_append_left (show i < vs.length by omega)]
    have e2 : rx (rs ++ [ys]) i = rx rs i := by simp [rx, List.getD, List.getElem?_append_left e]
    rw [e1, e2]
    exact keep _ _ (h.each i e)
  · obtain rfl : i = rs.length := by omega
    have e1 : vx (vs ++ [u]) rs.length = u := by rw [← hl]; simp [vx, List.getD]
    have e2 : rx (rs ++ [ys]) rs.length = ys := by simp [rx, List.getD]
    rw [e1, e2]
    exact keep _ _ hr
theorem RO.rr {w : World} {base : Nat} {v : Value} {vs : List Value} {rs : List (List Int)} (h : RO w base v vs rs) {n : Nat} (hn : rs.length = n) :
    ∃ A cap, v = .slice A n cap ∧ n ≤ cap ∧ cap ≤ 9223372036854775807 ∧ RR w w.heap.size A vs rs := by
  obtain ⟨A, cap, rfl, h1, h2, h3, _⟩ := h.own.form
  have hl := h.len
  subst hn
  exact ⟨A, cap, by rw [hl], by omega, h2, h.len, h3, fun i hi => (h.each i hi).sl⟩

variable {w : World}
theorem wpList_appR {ops : Array Oper} {rest : List Oper} {o : Oper} {a : Act} {Q : Exit → Act → World → Prop} (hgd : o.guard = none) (s x : Operand)
    (ho : o.op = .call { callee := .builtin .append, args := #[s, x], argTypes := #[23, 23] })
    (base : Nat) (v : Value) (vs : List Value) (hs : a.eval s = v) (hown : OwnR w base v vs) (g c : Nat) (A : Option Addr) (n k : Nat) (hx : a.eval x = .slice (some ⟨g, 0, none⟩) 1 c) (hc : w.cell? ⟨g, 0, none⟩ = some (.slice A n k))
    (hlen : vs.length ≤ 1000000) (hbase : base ≤ w.heap.size)
    (h : ∀ v' w', OwnR w' base v' (vs ++ [.slice A n k]) → w.grownBy w' v.ownBlock → wpList Tryd.prog ops Q rest (a.put o.dst v') w') : wpList Tryd.prog ops Q (o :: rest) a w := by
  obtain ⟨i0, hi, hz0, hz1, hz2⟩ := info_parts infoInts
  refine wpList_plain hgd fun K hK => ?_
  obtain ⟨v', w', hrun, h2, h3, _⟩ := run_append_own (P := Tryd.prog) w base 23 o.type 22 i0 _ 1 24 Tryd.underlying23 hi hz0 hz1 hz2 rfl (by decide) v vs.length vs hown
    ⟨g, 0, none⟩ 1 c [.slice A n k] rfl (fun j u hu => by
      match j, hu with
      | 0, hu => simp at hu; subst hu; exact hc) (by simp [Value.oneCell']) (by unfold maxLen; omega) (by omega) hbase
  unfold Oper.wp execOp
  simp only [ho, resolve, invoke, builtin, Sem.run_bind, Sem.run_pure, Result.andThen_ok, List.map_toArray, List.map_cons, List.map_nil, hs, hx, hrun]
  refine hK _ _ (h v' w' ?_ h3)
  unfold OwnR
  rw [List.length_append]
  simpa using h2

end Go.Proofs.YtdlmdaononclgaaDoor
