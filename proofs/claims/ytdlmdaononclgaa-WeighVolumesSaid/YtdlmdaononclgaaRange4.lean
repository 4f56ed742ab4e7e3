import Derived.Test.YtdlmdaononclgaaRange3
import Derived.OrdersHeld
import Derived.Lib.Hide
/- A region that draws its order, with loads first, and at its end an append and a store into a cell that was read: in a round. -/
namespace Go.Proofs.Ytdlmdaononclgaa
open Go.RowKit
set_option linter.unusedVariables false
set_option linter.unusedSimpArgs false

section
variable {P : Program} {ops : Array Oper} {Q : Exit → Act → World → Prop} {md : Region.Mode} {S : World → Prop} {last : Nat}

/-- whatever order is picked from here on, and S holds behind every operation but the last. -/
def wpAnyT (P : Program) (md : Region.Mode) (ops : Array Oper) (Q : Exit → Act → World → Prop) (S : World → Prop) (last : Nat) : Nat → Array Bool → Act → World → Prop
  | 0, listed, a, w => Region.ready md ops listed = [] ∧ Q .normal a w
  | fuel + 1, listed, a, w =>
    (Region.ready md ops listed = [] → Q .normal a w) ∧
    ∀ i ∈ Region.ready md ops listed, wpOp P ops Q i (fun a' w' => (i ≠ last → S w') ∧ wpAnyT P md ops Q S last fuel (listed.setIfInBounds i true) a' w') a w

theorem wpAny_of_T : ∀ (fuel : Nat) (listed : Array Bool) (a : Act) (w : World), wpAnyT P md ops Q S last fuel listed a w → wpAny P md ops Q fuel listed a w
  | 0, _, _, _, h => h
  | fuel + 1, _, _, _, h => ⟨h.1, fun i hi => wpOp_mono (fun a' w' h' => wpAny_of_T fuel _ a' w' h'.2) (h.2 i hi)⟩

theorem wpAnyT_first {i : Nat} {oi : Oper} {v : Value} (hi : ops[i]? = some oi) (hsel : ∀ (j : Nat) (o : Oper) cs b, ops[j]? = some o → o.op ≠ .select cs b)
    (hQ : ∀ c a w, Q (.panic c) (a.put oi.dst v) w → Q (.panic c) a w) (hil : i ≠ last) (hwait : Region.waitsFor md ops last i = true) :
    ∀ (fuel : Nat) (listed : Array Bool) (a : Act) (w : World),
      (∀ j oj, ops[j]? = some oj → j ≠ i → listed.getD j true = false → (∀ e ∈ oj.after, Region.binds md e = true → e.on ≠ i) → oi.apart ops oj = true) →
      i ∈ Region.ready md ops listed → YieldsIf P ops S oi v a → S w →
      wpAnyT P md ops Q S last fuel (listed.setIfInBounds i true) (a.put oi.dst v) w → wpAnyT P md ops Q S last (fuel + 1) listed a w := by
  intro fuel
  induction fuel with
  | zero =>
    intro listed a w _ hr hy hS H
    refine ⟨fun h => (by rw [h] at hr; cases hr), fun j hj => ?_⟩
    by_cases hji : j = i
    · subst hji; exact hy.wpOp hi hS ⟨fun _ => hS, H⟩
    · have := ready_mono hj hji
      rw [H.1] at this
      cases this
  | succ fuel ih =>
    intro listed a w hfree hr hy hS H
    refine ⟨fun h => (by rw [h] at hr; cases hr), fun j hj => ?_⟩
    by_cases hji : j = i
    · subst hji; exact hy.wpOp hi hS ⟨fun _ => hS, H⟩
    · have h1 := H.2 j (ready_mono hj hji)
      obtain ⟨hjun, oj, hoj, hall⟩ := mem_ready.1 hj
      have hnot : ∀ e ∈ oj.after, Region.binds md e = true → e.on ≠ i := fun e he hb heq => by
        have h1 := hall e he hb
        have h0 := (mem_ready.1 hr).1
        rw [heq] at h1
        rcases Nat.lt_or_ge i listed.size with h' | h'
        · simp [h'] at h0 h1; rw [h0] at h1; cases h1
        · simp [Array.getElem?_eq_none h'] at h1
      have hjl : j ≠ last := fun e => by
        subst e
        obtain ⟨o', ho', e, he, hb, hon⟩ := Region.waitsFor_spec hwait
        have : o' = oj := Option.some.inj (ho'.symm.trans hoj)
        subst this
        exact hnot e he hb hon
      have h2 := wpOp_putIf hoj (hfree j oj hoj hji hjun hnot) (fun cs b => hsel i oi cs b hi) (fun cs b => hsel j oj cs b hoj) hQ hy h1
      have hfree' : ∀ k ok, ops[k]? = some ok → k ≠ i → (listed.setIfInBounds j true).getD k true = false →
          (∀ e ∈ ok.after, Region.binds md e = true → e.on ≠ i) → oi.apart ops ok = true := fun k ok hk hki hun hno => by
        refine hfree k ok hk hki ?_ hno
        by_cases hjk : j = k
        · subst hjk; exact hjun
        · rw [getD_set_ne true hjk] at hun; exact hun
      refine wpOp_mono (fun a' w' h3 => ⟨fun _ => h3.2.1 hjl, ih (listed.setIfInBounds j true) a' w' hfree' (ready_mono hr (Ne.symm hji)) h3.1 (h3.2.1 hjl) ?_⟩) h2
      rw [Array.setIfInBounds_comm _ _ hji]
      exact h3.2.2

/-- the first operations yield their values in every world that meets S. -/
def wpHeld (P : Program) (ops : Array Oper) (S : World → Prop) (Q : Act → Prop) : List Oper → Act → Prop
  | [], a => Q a
  | o :: rest, a => ∃ v, YieldsIf P ops S o v a ∧ wpHeld P ops S Q rest (a.put o.dst v)
/-- the others come one at a time. -/
def wpTail (P : Program) (ops : Array Oper) (Q : Exit → Act → World → Prop) (S : World → Prop) (last : Nat) : List Oper → Nat → Act → World → Prop
  | [], _, a, w => Q .normal a w
  | o :: rest, k, a, w => if Region.wanted o (yielded ops a.tmps) then o.wp P a w (fun a' w' => (k ≠ last → S w') ∧ wpTail P ops Q S last rest (k + 1) a' w') Q else False

theorem wpTail_cons {o : Oper} {rest : List Oper} {k : Nat} {a : Act} {w : World}
    (h : ∀ K : Act → World → Prop, Hid (∀ a' w', (k ≠ last → S w') → wpTail P ops Q S last rest (k + 1) a' w' → K a' w') → if Region.wanted o (yielded ops a.tmps) then o.wp P a w K Q else False) : wpTail P ops Q S last (o :: rest) k a w :=
  h _ (Lib.hid fun _ _ h1 h2 => ⟨h1, h2⟩)

theorem wpAnyT_of_tail : ∀ (l : List Oper) (k : Nat) (listed : Array Bool) (a : Act) (w : World), (∀ j, l[j]? = ops[k + j]?) →
    Region.seqB md ops l.length k listed = true → wpTail P ops Q S last l k a w → wpAnyT P md ops Q S last l.length listed a w
  | [], _, _, _, _, _, hB, h => ⟨by simpa [Region.seqB] using hB, h⟩
  | o :: l, k, listed, a, w, hl, hB, h => by
    have h0 : ops[k]? = some o := by simpa using (hl 0).symm
    simp only [List.length_cons, Region.seqB, Bool.and_eq_true, decide_eq_true_eq] at hB
    refine ⟨fun h1 => (by rw [hB.1] at h1; cases h1), fun i hi => ?_⟩
    rw [hB.1] at hi
    have hik : i = k := by simpa using hi
    subst hik
    unfold wpTail at h
    by_cases hw : Region.wanted o (yielded ops a.tmps) = true
    · rw [if_pos hw] at h
      unfold wpOp
      simp only [h0, hw, if_true]
      exact .inl (Oper.wp_mono (fun a' w' h' => ⟨h'.1, wpAnyT_of_tail l (i + 1) _ a' w' (fun j => by have := hl (j + 1); simpa [Nat.add_assoc, Nat.add_comm 1 j] using this) hB.2 h'.2⟩) h)
    · rw [if_neg hw] at h
      exact h.elim

theorem wpAnyT_lex {Q' : Act → World → Prop} {tl : List Oper} {k0 : Nat} (hsel : Region.noSelect ops = true) (htl : ∀ j, tl[j]? = ops[k0 + j]?) :
    ∀ (l : List Oper) (k : Nat) (listed : Array Bool) (a : Act) (w : World), (∀ j, j < l.length → l[j]? = ops[k + j]?) → k + l.length = k0 → (∀ j, j < l.length → k + j ≠ last ∧ Region.waitsFor md ops last (k + j) = true) →
    Region.lexHead md ops tl.length l.length k listed = true → S w → wpHeld P ops S (fun a' => wpTail P ops (fun e a w => e = .normal ∧ Q' a w) S last tl k0 a' w) l a →
    wpAnyT P md ops (fun e a w => e = .normal ∧ Q' a w) S last (l.length + tl.length) listed a w
  | [], k, listed, a, w, hl, hk, hw, hB, hS, h => by
    have : k = k0 := by simpa using hk
    subst this
    rw [List.length_nil, Nat.zero_add]
    exact wpAnyT_of_tail tl k listed a w htl (by simpa [Region.lexHead] using hB) h
  | o :: l, k, listed, a, w, hl, hk, hw, hB, hS, h => by
    have h0 : ops[k]? = some o := by simpa using (hl 0 (by simp)).symm
    simp only [List.length_cons, Region.lexHead, Bool.and_eq_true] at hB
    obtain ⟨⟨hr, hf⟩, hB'⟩ := hB
    obtain ⟨v, hy, hK⟩ := h
    have h1 := hw 0 (by simp)
    rw [Nat.add_zero] at h1
    rw [List.length_cons, show l.length + 1 + tl.length = (l.length + tl.length) + 1 by omega]
    refine wpAnyT_first h0 (Region.noSelect_spec hsel) (fun _ _ _ h => by cases h.1) h1.1 h1.2 _ listed a w (Region.free_spec h0 hf) (by simpa using hr) hy hS ?_
    exact wpAnyT_lex hsel htl l (k + 1) _ _ w (fun j hj => by have := hl (j + 1) (by simp; omega); simpa [Nat.add_assoc, Nat.add_comm 1 j] using this) (by simp only [List.length_cons] at hk; omega)
      (fun j hj => by have := hw (j + 1) (by simp; omega); simpa [Nat.add_assoc, Nat.add_comm 1 j] using this) hB' hS hK
end

variable {n : Nat} {P : Program}
/-- the check of such a region: k operations first, then one at a time; the last waits for all of the first. -/
def heldB (ops : Array Oper) (k : Nat) : Bool :=
  Region.noSelect ops && decide (k < ops.size) && Region.lexHead .any ops (ops.size - k) k 0 (Array.replicate ops.size false) && (List.range k).all fun i => Region.waitsFor .any ops (ops.size - 1) i

theorem region_held_round {id : Nat} {Q : Exit → Act → World → Prop} {a : Act} {w : World} {l : List Oper} (S : World → Prop) (L : Nat) (k : Nat) (hm : P.follows .mixedOrders = true) (hB : heldB l.toArray k = true) (hd : noDefer l = true)
    (hS : S (w.drewN 1))
    (h : ∀ K : Act → World → Prop, Hid (∀ a w, Q .normal a w → K a w) → wpHeld P l.toArray S (fun a' => wpTail P l.toArray (fun e a w => e = .normal ∧ K a w) S (l.toArray.size - 1) (l.drop k) k a' (w.drewN 1)) (l.take k) a) :
    (Code.region id l.toArray true).wpIn (Fence.wide.inRound L) n P Q a w := by
  have h := h (Q .normal) (Lib.hid fun _ _ h => h)
  simp only [heldB, Bool.and_eq_true, decide_eq_true_eq, List.all_eq_true, List.mem_range] at hB
  obtain ⟨⟨⟨hsel, hn⟩, hlex⟩, hwt⟩ := hB
  have hn' : k < l.length := by simpa using hn
  have htl : (l.take k).length = k := by simp; omega
  have hdl : (l.drop k).length = l.toArray.size - k := by simp
  have H := wpAnyT_lex (P := P) (md := .any) (ops := l.toArray) (S := S) (last := l.toArray.size - 1) (tl := l.drop k) (k0 := k) hsel (fun j => by simp [List.getElem?_drop]) (l.take k) 0 (Array.replicate l.toArray.size false) a (w.drewN 1)
    (fun j hj => by have hj' : j < k := by rw [htl] at hj; exact hj
                    simp [hj'])
    (by simpa using htl) (fun j hj => by have hj' : j < k := by rw [htl] at hj; exact hj
                                         rw [Nat.zero_add]; exact ⟨by simp; omega, hwt j hj'⟩) (by rw [htl, hdl]; exact hlex) hS h
  rw [htl, hdl, show k + (l.toArray.size - k) = l.toArray.size by omega] at H
  have hno : ¬ LetsOut (fun e a w => e = Exit.normal ∧ Q .normal a w) := fun ⟨_, _, h, _⟩ => by cases h
  have h2 := anyIn_round L rfl (by simpa using hd) _ _ _ _ (anyIn_of_any (n := n) hno _ _ _ _ (wpAny_of_T _ _ _ _ H))
  exact wpIn_mono (wpIn_region_any hm h2) (fun e a w h => by obtain ⟨rfl, h⟩ := h; exact h)

end Go.Proofs.Ytdlmdaononclgaa
