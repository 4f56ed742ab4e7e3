import Derived.Test.YtdlmdaononclgaaDoorPl
import Derived.Test.YtdlmdaononclgaaDoorSane
/- WeighScales: the walk. -/
namespace Go.Proofs.YtdlmdaononclgaaDoor
open Go.RowKit
set_option linter.unusedVariables false
set_option linter.unusedSimpArgs false

/-- an own slice at a written length. -/
theorem OwnI.formN {w : World} {base : Nat} {v : Value} {xs : List Int} (h : OwnI w base v xs) {n : Nat} (hn : xs.length = n) :
    ∃ A cap, v = .slice A n cap ∧ n ≤ cap ∧ cap ≤ 9223372036854775807 ∧ RD w w.heap.size A (ints xs) := by
  subst hn
  obtain ⟨A, cap, h1, h2, h3, h4, _⟩ := h.form
  exact ⟨A, cap, h1, h2, h3, h4⟩
/-- two slices of the call's own, in blocks apart. -/
structure Own2 (w : World) (base : Nat) (v1 : Value) (l1 : List Int) (v2 : Value) (l2 : List Int) : Prop where
  o1 : OwnI w base v1 l1
  o2 : OwnI w base v2 l2
  ne : ∀ b, v1.ownBlock = some b → v2.ownBlock ≠ some b
theorem Own2.kept {w w' : World} {base : Nat} {v1 v2 : Value} {l1 l2 : List Int} (h : Own2 w base v1 l1 v2 l2) {B : Nat} (hb : Below B w w') (hB : w.heap.size ≤ B) : Own2 w' base v1 l1 v2 l2 :=
  ⟨h.o1.kept hb hB, h.o2.kept hb hB, h.ne⟩
theorem OwnI.lt {w : World} {base : Nat} {v : Value} {xs : List Int} (h : OwnI w base v xs) : ∀ b, v.ownBlock = some b → base ≤ b ∧ b < w.heap.size := by
  obtain ⟨_, _, _, _, _, _, _, hb⟩ := h.form
  exact hb
theorem Own2.app1 {w w' : World} {base : Nat} {v1 v2 v1' : Value} {l1 l2 l1' : List Int} (h : Own2 w base v1 l1 v2 l2) (ho : OwnI w' base v1' l1') (hg : w.grownBy w' v1.ownBlock) (hv : v1'.ownBlock = v1.ownBlock ∨ v1'.ownBlock = some w.heap.size) :
    Own2 w' base v1' l1' v2 l2 := by
  refine ⟨ho, h.o2.of_block (fun b hb => hg.block b (h.o2.lt b hb).2 (fun e => h.ne b e.symm hb)), fun b hb hb2 => ?_⟩
  rcases hv with e | e
  · exact h.ne b (e ▸ hb) hb2
  · rw [e] at hb
    have := (h.o2.lt b hb2).2
    simp only [Option.some.injEq] at hb
    omega
theorem Own2.app2 {w w' : World} {base : Nat} {v1 v2 v2' : Value} {l1 l2 l2' : List Int} (h : Own2 w base v1 l1 v2 l2) (ho : OwnI w' base v2' l2') (hg : w.grownBy w' v2.ownBlock) (hv : v2'.ownBlock = v2.ownBlock ∨ v2'.ownBlock = some w.heap.size) :
    Own2 w' base v1 l1 v2' l2' := by
  refine ⟨h.o1.of_block (fun b hb => hg.block b (h.o1.lt b hb).2 (fun e => h.ne b hb e.symm)), ho, fun b hb hb2 => ?_⟩
  rcases hv with e | e
  · exact h.ne b hb (e ▸ hb2)
  · rw [e] at hb2
    have := (h.o1.lt b hb).2
    simp only [Option.some.injEq] at hb2
    omega
theorem app_below0 {w0 wr w1 : World} {base : Nat} {v : Value} {xs : List Int} {o : Obj} (hB : Below base w0 wr) (ho : OwnI wr base v xs) (hg : (wr.alloc o).grownBy w1 v.ownBlock) (hbs : base ≤ wr.heap.size := by omega) : Below base w0 w1 := by
  obtain ⟨A, cap, rfl, _, _, _, _, h⟩ := ho.form
  exact (hB.alloc hbs o).grown hg (by simp; omega) (fun k e => (h k e).1)
theorem SameInts_n {xs ys : List Int} {r : Bool} {n m : Nat} (hr : decide (xs = ys) = r) (hx : xs.length = n) (hy : ys.length = m) (A : Option Addr) (c : Nat) (A2 : Option Addr) (c2 : Nat) (hc : n ≤ c) (hm : c ≤ 9223372036854775807) (hc2 : m ≤ c2) (hm2 : c2 ≤ 9223372036854775807) (w : World) {B B2 : Nat} (h : RD w B A (ints xs)) (h2 : RD w B2 A2 (ints ys)) :
    Calls Tryd.prog 30 #[.slice A n c, .slice A2 m c2] w fun e w' => e = .returned (.bool r) ∧ ∃ k, w' = w.drewN k := by
  subst hx; subst hy; exact SameInts_is hr A c A2 c2 hc hm hc2 hm2 w h h2
theorem take_map_snoc {g : Int → Int} {ps : List Int} {k : Nat} (h : k < ps.length) : (ps.take (k + 1)).map g = (ps.take k).map g ++ [g (ix ps k)] := by
  rw [List.take_succ_eq_append_getElem h, List.map_append]
  simp [ix, List.getD, List.getElem?_eq_getElem h]

end Go.Proofs.YtdlmdaononclgaaDoor
