import Derived.Test.YtdlmdaononclgaaRange2
import Derived.BigQuiet
import Derived.Lib.Hide
/- A region that draws its order, whose calls make memory but leave alone what was there: one walk of the text's order. -/
namespace Go.Proofs.Ytdlmdaononclgaa
open Go.RowKit
set_option linter.unusedVariables false
set_option linter.unusedSimpArgs false

/-- a world in which S holds. -/
structure Kd (S : World → Prop) where
  w : World
  ok : S w
/-- worlds that have W below. -/
def Bl (W w : World) : Prop := Below W.heap.size W w

instance Kd.inst (W : World) : Nonempty (Kd (Bl W)) := ⟨⟨W, Below.refl _ W⟩⟩

variable {P : Program}
theorem Kd.cell {W : World} {a : Addr} {v : Value} (h : W.cell? a = some v) : ∀ k : Kd (Bl W), k.w.cell? a = some v := fun k => cell_later k.ok h
theorem kept_call {W : World} {f : FuncId} {args : Array Value} {k : Kd (Bl W)} {v : Value} (h : Calls P f args k.w fun e w' => e = .returned v ∧ Below k.w.heap.size k.w w') :
    Calls P f args k.w fun e w'' => e = .returned v ∧ ∃ m : Kd (Bl W), w'' = m.w :=
  h.mono fun _ w' ⟨he, hb⟩ => ⟨he, ⟨w', hb.mono k.ok.size |> k.ok.trans⟩, rfl⟩
theorem kept_same {W : World} {f : FuncId} {args : Array Value} {k : Kd (Bl W)} {v : Value} (h : Calls P f args k.w fun e w' => e = .returned v ∧ k.w = w') :
    Calls P f args k.w fun e w'' => e = .returned v ∧ ∃ m : Kd (Bl W), w'' = m.w :=
  h.mono fun _ w' ⟨he, hb⟩ => ⟨he, k, hb.symm⟩
theorem Below.drewN' {B : Nat} {a w : World} (h : Below B a w) (n : Nat) : Below B a (w.drewN n) := ⟨h.os, h.tape, h.output, h.size, h.block⟩
theorem kept_drew {W : World} {f : FuncId} {args : Array Value} {k : Kd (Bl W)} {v : Value} (h : Calls P f args k.w fun e w' => e = .returned v ∧ ∃ n, w' = k.w.drewN n) :
    Calls P f args k.w fun e w'' => e = .returned v ∧ ∃ m : Kd (Bl W), w'' = m.w :=
  h.mono fun _ w' ⟨he, n, hb⟩ => ⟨he, ⟨w', by subst hb; exact Below.drewN' k.ok n⟩, rfl⟩

theorem region_kept {id : Nat} {Q : Exit → Act → World → Prop} {a : Act} {w : World} {l : List Oper} (hm : P.follows .mixedOrders = true) (hB : Region.lexB .any l.toArray = true)
    (h : wpQuiet P l.toArray (fun w' => ∃ k : Kd (Bl w), w' = k.w) (fun a' => ∀ w', (∃ k : Kd (Bl w), w' = k.w) → Q .normal a' w') l a) : (Code.region id l.toArray true).wp P Q a w :=
  wp_region_quiet (C := fun w' => ∃ k : Kd (Bl w), w' = k.w) hm hB ⟨⟨_, Below.drewN' (Below.refl _ w) 1⟩, rfl⟩ (by simpa using h)

end Go.Proofs.Ytdlmdaononclgaa
