import Derived.Test.YtdlmdaononclgaaRange
import Derived.Sort.QuietIn
/- A region that draws its order, within a round of a range over a function. -/
namespace Go.Proofs.Ytdlmdaononclgaa
open Go.RowKit
set_option linter.unusedVariables false
set_option linter.unusedSimpArgs false

/-- no 'defer' statement among the operations. -/
def noDefer (l : List Oper) : Bool := l.all fun o => match o.op with | .defer _ => false | _ => true
theorem noDefer_spec {l : List Oper} (h : noDefer l = true) {i : Nat} {o : Oper} (ho : l[i]? = some o) : ∀ c, o.op ≠ .defer c := by
  intro c hc
  have := List.all_eq_true.1 h o (List.mem_of_getElem? ho)
  rw [hc] at this
  cases this

variable {F : Fence} {n : Nat} {P : Program}

theorem opIn_round {ops : Array Oper} {Q : Exit → Act → World → Prop} (L : Nat) (hro : F.round = none) (hd : noDefer ops.toList = true) {i : Nat} {K : Act → World → Prop} {a : Act} {w : World}
    (h : wpOpIn F n P ops Q i K a w) : wpOpIn (F.inRound L) n P ops Q i K a w := by
  unfold wpOpIn at h ⊢
  cases ho : ops[i]? with
  | none => simp only [ho] at h ⊢; exact h
  | some o =>
    simp only [ho] at h ⊢
    by_cases hw : Region.wanted o (yielded ops a.tmps) = true
    · simp only [hw, if_true] at h ⊢
      have hnd := noDefer_spec hd (i := i) (o := o) (by simpa using ho)
      refine ⟨h.1, ?_⟩
      have h2 := h.2
      rw [Oper.semAt_eq _ _ _ hnd] at h2 ⊢
      exact h2
    · simp only [hw, if_false, Bool.false_eq_true] at h ⊢
      exact h

theorem anyIn_round {md : Region.Mode} {ops : Array Oper} {Q : Exit → Act → World → Prop} (L : Nat) (hro : F.round = none) (hd : noDefer ops.toList = true) : ∀ (fuel : Nat) (listed : Array Bool) (a : Act) (w : World),
    wpAnyIn F n P md ops Q fuel listed a w → wpAnyIn (F.inRound L) n P md ops Q fuel listed a w
  | 0, _, _, _, h => h
  | fuel + 1, listed, a, w, h => ⟨h.1, fun i hi => opIn_round L hro hd (wpOpIn_mono (fun a w => anyIn_round L hro hd fuel _ a w) (h.2 i hi))⟩

/-- ONE WALK OF THE LEXICAL ORDER SERVES EVERY ORDER, in a round too. -/
theorem region_quiet_round {id : Nat} {Q : Exit → Act → World → Prop} {a : Act} {w : World} {l : List Oper} (L : Nat) (hm : P.follows .mixedOrders = true) (hB : Region.lexB .any l.toArray = true) (hd : noDefer l = true)
    (h : wpQuietIn Fence.wide n P l.toArray (fun w' => ∃ n, w' = w.drewN n) (fun a' => ∀ w', (∃ n, w' = w.drewN n) → Q .normal a' w') l a) : (Code.region id l.toArray true).wpIn (Fence.wide.inRound L) n P Q a w := by
  have hB' := hB
  simp only [Region.lexB, Bool.and_eq_true] at hB
  refine wpIn_region_any hm (anyIn_round L rfl (by simpa using hd) _ _ _ _ (wpAnyIn_of_quiet (F := Fence.wide) (C := fun w' => ∃ n, w' = w.drewN n) (Q := fun a' => ∀ w', (∃ n, w' = w.drewN n) → Q .normal a' w') rfl (fun _ w' hw' h => h w' hw') _ _ _ _ ⟨1, rfl⟩ ?_))
  have := wpAnyQIn_lex (F := Fence.wide) (n := n) (P := P) (C := fun w' => ∃ n, w' = w.drewN n) (md := .any) hB.1 l 0 (Array.replicate l.toArray.size false) a (by simp) (by simpa using hB.2) h
  simpa using this

end Go.Proofs.Ytdlmdaononclgaa
