import Derived.Test.YtdlmdaononclgaaRange2
import Derived.StillTailTactics
/- A range over a function whose values name cells that the function itself has laid: as in Range, with a relation between what is yielded and the world. -/
namespace Go.Proofs.Ytdlmdaononclgaa
open Go.RowKit
set_option linter.unusedVariables false
set_option linter.unusedSimpArgs false

/-- THE ITERATOR's CONTRACT, where what is yielded names cells of its own: it yields just ys, from a world in which H holds (of its captured data, at a Y that spares them). -/
def YieldsE {α : Type} (F : Fence) (n : Nat) (P : Program) (g : Nat) (lb : Array Value) (E : α → World → Array Value → Prop) (ys : List α) (H : (Nat → Prop) → World → Prop) : Prop :=
  ∀ (l : Nat) (J Jx : Nat → (Nat → Prop) → World → Prop) (Y : Nat → Prop) (W : World),
    (∀ i Y A B, J i Y A → Keep W.heap.size Y A B → J i Y B) → (∀ i Y A B, Jx i Y A → Keep W.heap.size Y A B → Jx i Y B) →
    (∀ i x Y A vs, ys[i]? = some x → J i Y A → (∀ k, Y k → k < A.heap.size) → E x A vs → YieldAt F (n - 1) P l vs A fun e B =>
      (e = .returned (.bool true) ∧ ∃ Y', J (i + 1) Y' B ∧ Round (orL Y l) (orL Y' l) A B) ∨ (e = .returned (.bool false) ∧ ∃ Y', Jx (i + 1) Y' B)) →
    (∀ k, Y k → k < W.heap.size) → l < W.heap.size → H (orL Y l) W → J 0 Y W →
    CallsIn F n P g (#[.func (.yield l) #[] #[]] ++ lb) W fun e W' => (∃ v, e = .returned v) ∧ ((∃ Y', J ys.length Y' W') ∨ (∃ i Y', Jx i Y' W'))

variable {F : Fence} {n : Nat} {P : Program}

/-- an operation of a plain walk is one of a walk within the widest fence, if no ending but the plain one is allowed. -/
theorem opIn_of_op {ops : Array Oper} {Q : Exit → Act → World → Prop} (hQ : ¬ LetsOut Q) {i : Nat} {K : Act → World → Prop} {a : Act} {w : World}
    (h : wpOp P ops Q i K a w) : wpOpIn Fence.wide n P ops Q i K a w := by
  unfold wpOp at h
  unfold wpOpIn
  cases ho : ops[i]? with
  | none => simp only [ho] at h ⊢; exact h
  | some o =>
    simp only [ho] at h ⊢
    by_cases hw : Region.wanted o (yielded ops a.tmps) = true
    · simp only [hw, if_true] at h ⊢
      rcases h with h | h
      · refine ⟨fun _ _ => trivial, ?_⟩
        unfold Oper.wp at h
        show o.uponIn Fence.wide n P a K Q ((execOp a.eval o).run P w)
        generalize (execOp a.eval o).run P w = r at *
        cases r with
        | ok x w' =>
          cases x <;> simp only [Oper.upon, Oper.uponIn] at h ⊢
          case enter f args => exact ⟨fun h0 => absurd h0 (by simp [Fence.wide]), callsIn_wide.2 h⟩
          case row row args =>
            refine ⟨fun h0 => absurd h0 (by simp [Fence.wide]), fun c cs _ => ?_⟩
            obtain ⟨v, w2, r, s⟩ := h c cs
            exact ⟨v, w2, r, stepsIn_wide.2 s⟩
          all_goals exact h
        | halt x w' => cases x <;> simp only [Oper.upon, Oper.uponIn] at h ⊢ <;> exact h
      · exact absurd h.2 hQ
    · simp only [hw, if_false, Bool.false_eq_true] at h ⊢
      exact ⟨fun _ _ => trivial, h⟩

theorem anyIn_of_any {md : Region.Mode} {ops : Array Oper} {Q : Exit → Act → World → Prop} (hQ : ¬ LetsOut Q) : ∀ (fuel : Nat) (listed : Array Bool) (a : Act) (w : World),
    wpAny P md ops Q fuel listed a w → wpAnyIn Fence.wide n P md ops Q fuel listed a w
  | 0, _, _, _, h => h
  | fuel + 1, listed, a, w, h => ⟨h.1, fun i hi => wpOpIn_mono (fun a w => anyIn_of_any hQ fuel _ a w) (opIn_of_op hQ (h.2 i hi))⟩

/-- a region that draws its order and writes at its end, in a round. -/
theorem region_tail_round {id : Nat} {Q : Exit → Act → World → Prop} {a : Act} {w : World} {l : List Oper} (L : Nat) (k : Nat) (hm : P.follows .mixedOrders = true) (hB : Region.lexTailB .any l.toArray k = true) (hd : noDefer l = true)
    (h : ∀ K : Act → World → Prop, (∀ a w, Q .normal a w → K a w) → wpStill P l.toArray { w with drawn := w.drawn + 1 } (fun a' => wpList P l.toArray (fun e a w => e = .normal ∧ K a w) (l.drop k) a' { w with drawn := w.drawn + 1 }) (l.take k) a) :
    (Code.region id l.toArray true).wpIn (Fence.wide.inRound L) n P Q a w := by
  have h := h (Q .normal) (fun _ _ h => h)
  simp only [Region.lexTailB, Bool.and_eq_true, decide_eq_true_eq] at hB
  obtain ⟨⟨⟨⟨hsel, hn⟩, hs⟩, hc⟩, hlex⟩ := hB
  have hn' : k < l.length := by simpa using hn
  have htl : (l.take k).length = k := by simp; omega
  have hdl : (l.drop k).length = l.toArray.size - k := by simp
  have inv0 : HeadInv .any l.toArray k (Array.replicate l.toArray.size false) :=
    ⟨by simp, fun j oj _ hl => (by rw [getD_replicate_false] at hl; cases hl), fun t _ ht => getD_in (by simpa using ht) (getD_replicate_false _ _)⟩
  have H := wpAnyL_lex (md := .any) (g := l.toArray.size - k) hsel hs hc hn (l.take k) 0 _ a (fun j hj => by
    have hj' : j < k := by rw [htl] at hj; exact hj
    simp [hj']) (by simpa using htl) inv0 (by rw [htl]; exact hlex) h
  have := wpAny_of_head (Q' := fun e a w => e = .normal ∧ Q .normal a w) (g := l.toArray.size - k) (fun listed a' hL => by
    have := wpAny_of_seq (md := .any) (Q' := fun e a w => e = .normal ∧ Q .normal a w) (l.drop k) k listed a' { w with drawn := w.drawn + 1 } (fun j => by simp [List.getElem?_drop]) (by rw [hdl]; exact hL.1) hL.2
    rwa [hdl] at this) _ _ _ H
  rw [htl, show k + (l.toArray.size - k) = l.toArray.size by omega] at this
  have hno : ¬ LetsOut (fun e a w => e = Exit.normal ∧ Q .normal a w) := fun ⟨_, _, h, _⟩ => by cases h
  have h2 := anyIn_round L rfl (by simpa using hd) _ _ _ _ (anyIn_of_any (n := n) hno _ _ _ _ this)
  exact wpIn_mono (wpIn_region_any hm h2) (fun e a w h => by obtain ⟨rfl, h⟩ := h; exact h)

theorem rangeE {α : Type} {g : Operand} {ps : Array Tmp} {assign body : Code} {Q : Exit → Act → World → Prop} {a : Act} {w : World}
    (hro : F.round = none) (h1 : 1 ≤ n) {gf : Nat} {lb : Array Value} (hg : a.eval g = .func (.func gf) #[] lb) (hFg : F.fn gf) (eg : ∀ args w, (callFunc gf args).run P w = .ok (.enter gf args) w)
    {E : α → World → Array Value → Prop} {ys : List α} {H : (Nat → Prop) → World → Prop} (hseq : YieldsE F (n - 1) P gf lb E ys H) (hps : ∀ x W vs, E x W vs → vs.size = ps.size)
    (I : Nat → (Nat → Prop) → World → Prop) (Ix : Code → Nat → (Nat → Prop) → World → Prop) (Y0 : Nat → Prop) (hY0 : ∀ k, Y0 k → k < w.heap.size)
    (hI : ∀ i Y A B, I i Y A → Keep w.heap.size Y A B → I i Y B) (hIx : ∀ c i Y A B, Ix c i Y A → Keep w.heap.size Y A B → Ix c i Y B)
    (h0 : I 0 Y0 w) (hH : ∀ W Z, Below w.heap.size w W → (∀ k, Z k → Y0 k ∨ w.heap.size ≤ k) → H Z W)
    (Ax : α → Act → World → Prop) (hAx : ∀ x a' A B, Ax x a' A → (∀ k, k < A.heap.size → (∃ c e f, A.heap[k]? = some (.cells c e f)) → B.heap[k]? = A.heap[k]?) → Ax x a' B)
    (hassign : ∀ (l i : Nat) (x : α) (Y : Nat → Prop) (W : World) (vs : Array Value) (K : Act → World → Prop), ys[i]? = some x → I i Y W → (∀ k, Y k → k < W.heap.size) → E x W vs →
      (∀ a' W', Below W.heap.size W W' → Ax x a' W' → K a' W') →
      assign.wpIn (F.inRound l) (n - 1 - 1) P (Exit.then K (fun _ _ _ => False)) { tmps := (ps.zip vs).foldl (fun t (p, v) => t.setIfInBounds p v) a.tmps, defers := [] } W)
    (hbody : ∀ (l i : Nat) (x : α) (a' : Act) (Y : Nat → Prop) (W : World), w.heap.size < l → (∃ r, W.heap[l]? = some (.loop r)) → ys[i]? = some x → I i Y W → (∀ k, Y k → k < W.heap.size) → Ax x a' W →
      body.wpIn (F.inRound l) (n - 1 - 1) P (bodyY I (fun _ _ _ => False) Ix i Y W) a' W)
    (hdone : ∀ (Y : Nat → Prop) (W : World), I ys.length Y W → W.heap[w.heap.size]? = some (.deferred (some [])) → Q .normal { a with defers := { target := .collected w.heap.size, args := #[] } :: a.defers } W)
    (hstop : ∀ (c : Code) (i : Nat) (Y : Nat → Prop) (W : World), Ix c i Y W → W.heap[w.heap.size]? = some (.deferred (some [])) → c.wpIn F n P Q { a with defers := { target := .collected w.heap.size, args := #[] } :: a.defers } W) :
    (Code.rangeFunc g ps assign body).wpIn F n P Q a w := by
  refine wpIn_rangeFunc ?_
  intro fn hfn
  rw [hro]
  obtain ⟨rec, hrec⟩ : ∃ rec : LoopState → Option Code → Loop, rec = fun st pe => { state := st, pending := pe, fn, tmps := a.tmps, params := ps, assign, body, defers := w.heap.size } := ⟨_, rfl⟩
  obtain ⟨W1, hW1⟩ : ∃ W1, (w.alloc (.deferred (some []))).alloc (.loop (rec .ready none)) = W1 := ⟨_, rfl⟩
  have hL1 : W1.heap[w.heap.size + 1]? = some (.loop (rec .ready none)) := by
    rw [← hW1]; have := World.alloc_heap_new (w.alloc (.deferred (some []))) (.loop (rec .ready none)); rwa [World.size_alloc] at this
  have hK1 : W1.heap[w.heap.size]? = some (.deferred (some [])) := by
    rw [← hW1]; exact (Below.heap_alloc _ _ _ (by simp)).trans (World.alloc_heap_new w _)
  have hz1 : W1.heap.size = w.heap.size + 2 := by rw [← hW1]; simp
  have hb1 : Below w.heap.size w W1 := by
    rw [← hW1]; exact (((Below.refl _ w).alloc (Nat.le_refl _) _).alloc (by simp) _)
  have hI1 : I 0 Y0 W1 := hI _ _ _ _ h0 (Keep.of_below hb1)
  refine ⟨w.heap.size + 1, [{ target := .collected w.heap.size, args := #[] }], W1, { target := .fn (.func gf) lb, args := #[.func (.yield (w.heap.size + 1)) #[] #[]] }, W1, gf,
    #[.func (.yield (w.heap.size + 1)) #[] #[]] ++ lb, W1, ?_, ?_, ?_, ?_, fun _ => h1, ?_⟩
  · rw [← hW1, hrec]; exact run_enterLoop_outer _ _ _ _ _
  · simp only [resolve, hg]
    simp [go_sem]
  · intro f' hf'; simp [Target.leads] at hf'; subst hf'; exact hFg
  · simp [invoke, go_sem, eg]
  · -- the iterator's contract, at the caller's invariant, the two facts of book-keeping beside it
    have keepW : ∀ {Y : Nat → Prop} {A B : World}, Keep W1.heap.size Y A B → Keep w.heap.size Y A B := fun h => h.less (by omega)
    refine (hseq (w.heap.size + 1)
      (fun i Y W => I i Y W ∧ (¬ Y w.heap.size ∧ ¬ Y (w.heap.size + 1)) ∧ W.heap[w.heap.size + 1]? = some (.loop (rec .ready none)) ∧ W.heap[w.heap.size]? = some (.deferred (some [])))
      (fun i Y W => ∃ c, Ix c i Y W ∧ (¬ Y w.heap.size ∧ ¬ Y (w.heap.size + 1)) ∧ W.heap[w.heap.size + 1]? = some (.loop (rec .done (some c))) ∧ W.heap[w.heap.size]? = some (.deferred (some [])))
      Y0 W1
      (fun i Y A B hs hk => ⟨hI _ _ _ _ hs.1 (keepW hk), hs.2.1, (hk.block _ (Array.getElem?_eq_some_iff.1 hs.2.2.1).1 (.inl (by omega))).trans hs.2.2.1, (hk.block _ (Array.getElem?_eq_some_iff.1 hs.2.2.2).1 (.inl (by omega))).trans hs.2.2.2⟩)
      (fun i Y A B hs hk => by
        obtain ⟨c, hc, hy, hl, hd⟩ := hs
        exact ⟨c, hIx _ _ _ _ _ hc (keepW hk), hy, (hk.block _ (Array.getElem?_eq_some_iff.1 hl).1 (.inl (by omega))).trans hl, (hk.block _ (Array.getElem?_eq_some_iff.1 hd).1 (.inl (by omega))).trans hd⟩)
      ?_ (fun k hk => by have := hY0 k hk; omega) (by omega) (hH W1 _ hb1 (fun k hk => by rcases hk with h | h; exact .inl h; right; omega)) ⟨hI1, ⟨fun h => by have := hY0 _ h; omega, fun h => by have := hY0 _ h; omega⟩, hL1, hK1⟩).mono ?_
    · -- one round
      rintro i x Y W vs hx ⟨hi, ⟨hy0, hy1⟩, hl, hk⟩ hlt0 hE
      have hlt : w.heap.size + 1 < W.heap.size := (Array.getElem?_eq_some_iff.1 hl).1
      have hy := run_yield (P := P) (args := vs) hl (by rw [hrec]; exact hps x W vs hE)
      rw [hrec] at hy
      refine ⟨fn, _, assign, body, hy, roundIn_of_wpIn hfn (hassign _ i x Y W vs _ hx hi hlt0 hE ?_)⟩
      clear hy
      intro a' Wa hba hax
      have hla : Wa.heap[w.heap.size + 1]? = some (.loop (rec .ready none)) := (hba.block _ hlt).trans hl
      have hka : Wa.heap[w.heap.size]? = some (.deferred (some [])) := (hba.block _ (by omega)).trans hk
      have hlta : w.heap.size + 1 < Wa.heap.size := Nat.lt_of_lt_of_le hlt hba.size
      refine ⟨_, run_beginRound hla (by rw [hrec]), ?_⟩
      obtain ⟨Wb, hWb⟩ : ∃ Wb, Wa.putObj (w.heap.size + 1) (.loop { rec .ready none with state := .busy }) = Wb := ⟨_, rfl⟩
      have hl2 : Wb.heap[w.heap.size + 1]? = some (.loop { rec .ready none with state := .busy }) := by rw [← hWb]; exact World.putObj_heap_same hlta
      have hk2 : Wb.heap[w.heap.size]? = some (.deferred (some [])) := by rw [← hWb]; exact (World.putObj_heap_other (by omega)).trans hka
      have hsb : Wb.heap.size = Wa.heap.size := by rw [← hWb]; simp
      have kb : Keep w.heap.size Y W Wb := by rw [← hWb]; exact (Keep.of_below hba).putObj (by omega) hy1 _
      have hib : I i Y Wb := hI _ _ _ _ hi kb
      have haxb : Ax x a' Wb := hAx _ _ _ _ hax (fun k hk ⟨c, e, f, hc⟩ => by rw [← hWb]; exact World.putObj_heap_other (fun e' => by subst e'; rw [hla] at hc; cases hc))
      have hltb : ∀ k, Y k → k < Wb.heap.size := fun k hk => by have := hlt0 k hk; have := hba.size; omega
      rw [hWb]
      refine wpIn_mono (hbody _ i x a' Y Wb (by omega) ⟨_, hl2⟩ hx hib hltb haxb) ?_
      have fin : ∀ (jump : Option Code) (Y' : Nat → Prop) (W3 : World), Round Y Y' Wb W3 →
          (Instr.endRound (w.heap.size + 1) jump).run P W3 = .ok (.bool jump.isNone) (W3.putObj (w.heap.size + 1) (.loop (rec (if jump.isNone then .ready else .done) jump))) ∧
          (W3.putObj (w.heap.size + 1) (.loop (rec (if jump.isNone then .ready else .done) jump))).heap[w.heap.size + 1]? = some (.loop (rec (if jump.isNone then .ready else .done) jump)) ∧
          (W3.putObj (w.heap.size + 1) (.loop (rec (if jump.isNone then .ready else .done) jump))).heap[w.heap.size]? = some (.deferred (some [])) ∧
          Keep w.heap.size Y' W3 (W3.putObj (w.heap.size + 1) (.loop (rec (if jump.isNone then .ready else .done) jump))) ∧ (¬ Y' w.heap.size ∧ ¬ Y' (w.heap.size + 1)) := fun jump Y' W3 hr3 => by
        have hl3 := (hr3.block _ (by omega) hy1).trans hl2
        have hk3 := (hr3.block _ (by omega) hy0).trans hk2
        have o1 : ¬ Y' (w.heap.size + 1) := hr3.out (by omega) hy1
        have := run_endRound (P := P) jump hl3
        rw [hrec] at this ⊢
        exact ⟨this, World.putObj_heap_same (Array.getElem?_eq_some_iff.1 hl3).1, (World.putObj_heap_other (by omega)).trans hk3, (Keep.refl _ _ _).putObj (by omega) o1 _, hr3.out (by omega) hy0, o1⟩
      rintro e a3 W3 hp
      cases e with
      | normal =>
        obtain ⟨Y', hi3, hr3⟩ := hp
        obtain ⟨hr, hl4, hk4, hkp, ho⟩ := fin none Y' W3 hr3
        refine ⟨_, _, hr, .inl ⟨rfl, Y', ⟨hI _ _ _ _ hi3 hkp, ho, hl4, hk4⟩, ?_⟩⟩
        refine ⟨hr3.os.trans kb.os, hr3.tape.trans kb.tape, hr3.output.trans kb.output, ?_, fun k hk hnk => ?_, fun k hk => ?_, fun k hk => ?_⟩
        · have := hr3.size; have := kb.size; simp; omega
        · have hs := kb.size
          have hne : k ≠ w.heap.size + 1 := fun e => hnk (.inr e)
          have hny : ¬ Y k := fun h => hnk (.inl h)
          rw [World.putObj_heap_other hne, hr3.block k (by omega) hny, ← hWb, World.putObj_heap_other hne]
          exact hba.block k hk
        · rcases hk with hk | hk
          · rcases hr3.more k hk with h | h
            · exact .inl (.inl h)
            · right; have := kb.size; omega
          · exact .inl (.inr hk)
        · rcases hk with hk | hk
          · have := hr3.lt k hk; simpa using this
          · have := hr3.size; have := kb.size; subst hk; simp; omega
      | ret =>
        obtain ⟨Y', hi3, hr3⟩ := hp
        obtain ⟨hr, hl4, hk4, hkp, ho⟩ := fin (some .ret) Y' W3 hr3
        exact ⟨_, _, hr, .inr ⟨rfl, Y', .ret, hIx _ _ _ _ _ hi3 hkp, ho, hl4, hk4⟩⟩
      | exit id =>
        obtain ⟨Y', hi3, hr3⟩ := hp
        obtain ⟨hr, hl4, hk4, hkp, ho⟩ := fin (some (.exit id)) Y' W3 hr3
        exact ⟨_, _, hr, .inr ⟨rfl, Y', .exit id, hIx _ _ _ _ _ hi3 hkp, ho, hl4, hk4⟩⟩
      | goto t =>
        obtain ⟨Y', hi3, hr3⟩ := hp
        obtain ⟨hr, hl4, hk4, hkp, ho⟩ := fin (some (.goto t)) Y' W3 hr3
        exact ⟨_, _, hr, .inr ⟨rfl, Y', .goto t, hIx _ _ _ _ _ hi3 hkp, ho, hl4, hk4⟩⟩
      | panic ch => exact hp.elim
      | outgrown => exact hp.elim
    · -- behind the iterator
      rintro e W2 ⟨⟨v, rfl⟩, (⟨Y', hi, hy, hl, hk⟩ | ⟨i, Y', c, hi, hy, hl, hk⟩)⟩
      · exact ⟨none, _, by have := run_endLoop (P := P) hl (by rw [hrec]; simp); rw [hrec] at this; exact this, hdone Y' _ (hI _ _ _ _ hi ((Keep.refl _ _ _).putObj (by omega) hy.2 _)) ((World.putObj_heap_other (by omega)).trans hk)⟩
      · exact ⟨some c, _, by have := run_endLoop (P := P) hl (by rw [hrec]; simp); rw [hrec] at this; exact this, hstop c i Y' _ (hIx _ _ _ _ _ hi ((Keep.refl _ _ _).putObj (by omega) hy.2 _)) ((World.putObj_heap_other (by omega)).trans hk)⟩

end Go.Proofs.Ytdlmdaononclgaa
