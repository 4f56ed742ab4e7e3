import Derived.RangeFuncNested
import Derived.RangeFuncBound
import Derived.RangeFuncCalls
import Derived.RangeFuncLeaves
import Derived.Shelf.Abstract
import Derived.Shelf.RegionOpen
import Derived.WalkKit
import Derived.OwnWalkIn
import Derived.TacticsInMore
import Derived.LoopNIn
import Derived.LoopIn
import Derived.WalkSpells
import Derived.WalkLawsBesides
import Derived.Handy
import Derived.Laws.EntriesVeiled
/- A range over a function, by a law of its own: the body says which blocks it may write (Y), and may add blocks that it lays; the iterator keeps those, and its own blocks are kept by the body. -/
namespace Go.Proofs.Ytdlmdaononclgaa
open Go.RowKit
set_option linter.unusedVariables false
set_option linter.unusedSimpArgs false

theorem wide_depth {n : Nat} (h : Fence.wide.depth.isSome = true) : 1 ≤ n := by simp [Fence.wide] at h

/-- an iterator's steps: what lay below D, and what is in Y, lies as it lay. -/
structure Keep (D : Nat) (Y : Nat → Prop) (W W' : World) : Prop where
  os : W'.os = W.os
  tape : W'.tape = W.tape
  output : W'.output = W.output
  size : W.heap.size ≤ W'.heap.size
  block : ∀ k, k < W.heap.size → (k < D ∨ Y k) → W'.heap[k]? = W.heap[k]?

theorem Keep.refl (D : Nat) (Y : Nat → Prop) (W : World) : Keep D Y W W := ⟨rfl, rfl, rfl, Nat.le_refl _, fun _ _ _ => rfl⟩
theorem Keep.trans {D : Nat} {Y : Nat → Prop} {A B C : World} (h : Keep D Y A B) (k : Keep D Y B C) : Keep D Y A C :=
  ⟨k.os.trans h.os, k.tape.trans h.tape, k.output.trans h.output, Nat.le_trans h.size k.size, fun i hi hy => (k.block i (Nat.lt_of_lt_of_le hi h.size) hy).trans (h.block i hi hy)⟩
theorem Keep.of_below {D : Nat} {Y : Nat → Prop} {W W' : World} (h : Below W.heap.size W W') : Keep D Y W W' := ⟨h.os, h.tape, h.output, h.size, fun k hk _ => h.block k hk⟩
theorem Keep.alloc {D : Nat} {Y : Nat → Prop} {A W : World} (h : Keep D Y A W) (o : Obj) : Keep D Y A (W.alloc o) := h.trans (Keep.of_below ((Below.refl _ W).alloc (Nat.le_refl _) o))
theorem Keep.drewN {D : Nat} {Y : Nat → Prop} {A W : World} (h : Keep D Y A W) (n : Nat) : Keep D Y A (W.drewN n) := ⟨h.os, h.tape, h.output, h.size, h.block⟩
theorem Keep.setCell {D : Nat} {Y : Nat → Prop} {A W : World} (h : Keep D Y A W) {p : Addr} (hD : D ≤ p.block) (hY : ¬ Y p.block) (v : Value) : Keep D Y A (W.setCell p v) :=
  h.trans ⟨rfl, rfl, rfl, by simp [World.setCell], fun k hk hy => Below.heap_setCell _ _ _ _ (fun e => by subst e; rcases hy with hy | hy; omega; exact hY hy)⟩
theorem Keep.putObj {D : Nat} {Y : Nat → Prop} {A W : World} (h : Keep D Y A W) {l : Nat} (hD : D ≤ l) (hY : ¬ Y l) (o : Obj) : Keep D Y A (W.putObj l o) :=
  h.trans ⟨rfl, rfl, rfl, by simp, fun k hk hy => World.putObj_heap_other (fun e => by subst e; rcases hy with hy | hy; omega; exact hY hy)⟩
theorem Keep.less {D D' : Nat} {Y : Nat → Prop} {W W' : World} (h : Keep D Y W W') (hD : D' ≤ D) : Keep D' Y W W' := ⟨h.os, h.tape, h.output, h.size, fun k hk hy => h.block k hk (by rcases hy with hy | hy; exact .inl (by omega); exact .inr hy)⟩
theorem Keep.below {D B : Nat} {Y : Nat → Prop} {a W W' : World} (h : Keep D Y W W') (hB : B ≤ D) (hb : Below B a W) (hBW : B ≤ W.heap.size) : Below B a W' :=
  hb.trans ⟨h.os, h.tape, h.output, h.size, fun k hk => h.block k (by omega) (.inl (by omega))⟩
theorem Keep.cell {D : Nat} {Y : Nat → Prop} {W W' : World} (h : Keep D Y W W') {p : Addr} (hp : p.block < W.heap.size) (hy : p.block < D ∨ Y p.block) : W'.cell? p = W.cell? p := World.cell?_of_block (h.block _ hp hy)

/-- one round's doing: blocks that were there and are not in Y lie as they lay; Y' holds blocks of Y and new ones. -/
structure Round (Y Y' : Nat → Prop) (W W' : World) : Prop where
  os : W'.os = W.os
  tape : W'.tape = W.tape
  output : W'.output = W.output
  size : W.heap.size ≤ W'.heap.size
  block : ∀ k, k < W.heap.size → ¬ Y k → W'.heap[k]? = W.heap[k]?
  more : ∀ k, Y' k → Y k ∨ W.heap.size ≤ k
  lt : ∀ k, Y' k → k < W'.heap.size

theorem Round.refl {Y : Nat → Prop} {W : World} (h : ∀ k, Y k → k < W.heap.size) : Round Y Y W W := ⟨rfl, rfl, rfl, Nat.le_refl _, fun _ _ _ => rfl, fun _ h => .inl h, h⟩
theorem Round.of_below {Y : Nat → Prop} {W W' : World} (hY : ∀ k, Y k → k < W.heap.size) (h : Below W.heap.size W W') : Round Y Y W W' :=
  ⟨h.os, h.tape, h.output, h.size, fun k hk _ => h.block k hk, fun _ h => .inl h, fun k hk => Nat.lt_of_lt_of_le (hY k hk) h.size⟩
theorem Round.trans {Y Y' Y'' : Nat → Prop} {A B C : World} (h : Round Y Y' A B) (k : Round Y' Y'' B C) : Round Y Y'' A C :=
  ⟨k.os.trans h.os, k.tape.trans h.tape, k.output.trans h.output, Nat.le_trans h.size k.size,
   fun i hi hy => (k.block i (Nat.lt_of_lt_of_le hi h.size) (fun hy' => by rcases h.more i hy' with x | x; exact hy x; omega)).trans (h.block i hi hy),
   fun i hi => by rcases k.more i hi with x | x; (exact h.more i x); (right; have := h.size; omega), k.lt⟩
theorem Round.cell {Y Y' : Nat → Prop} {W W' : World} (h : Round Y Y' W W') {p : Addr} (hp : p.block < W.heap.size) (hy : ¬ Y p.block) : W'.cell? p = W.cell? p := World.cell?_of_block (h.block _ hp hy)
/-- a block that is not in Y (and was there) is not in Y'. -/
theorem Round.out {Y Y' : Nat → Prop} {W W' : World} (h : Round Y Y' W W') {k : Nat} (hk : k < W.heap.size) (hy : ¬ Y k) : ¬ Y' k := fun hy' => by rcases h.more k hy' with x | x; exact hy x; omega

/-- Y, and the loop's own record l. -/
def orL (Y : Nat → Prop) (l : Nat) (k : Nat) : Prop := Y k ∨ k = l

/-- THE ITERATOR's CONTRACT: it yields just ys, from a world in which H holds (of its captured data, at a Y that spares them). -/
def Yields {α : Type} (F : Fence) (n : Nat) (P : Program) (g : Nat) (lb : Array Value) (encs : α → Array Value) (ys : List α) (H : (Nat → Prop) → World → Prop) : Prop :=
  ∀ (l : Nat) (J Jx : Nat → (Nat → Prop) → World → Prop) (Y : Nat → Prop) (W : World),
    (∀ i Y A B, J i Y A → Keep W.heap.size Y A B → J i Y B) → (∀ i Y A B, Jx i Y A → Keep W.heap.size Y A B → Jx i Y B) →
    (∀ i x Y A, ys[i]? = some x → J i Y A → (∀ k, Y k → k < A.heap.size) → YieldAt F (n - 1) P l (encs x) A fun e B =>
      (e = .returned (.bool true) ∧ ∃ Y', J (i + 1) Y' B ∧ Round (orL Y l) (orL Y' l) A B) ∨ (e = .returned (.bool false) ∧ ∃ Y', Jx (i + 1) Y' B)) →
    (∀ k, Y k → k < W.heap.size) → l < W.heap.size → H (orL Y l) W → J 0 Y W →
    CallsIn F n P g (#[.func (.yield l) #[] #[]] ++ lb) W fun e W' => (∃ v, e = .returned v) ∧ ((∃ Y', J ys.length Y' W') ∨ (∃ i Y', Jx i Y' W'))

/-- how a round's body may be left. -/
def bodyY (I Ix : Nat → (Nat → Prop) → World → Prop) (Ixc : Code → Nat → (Nat → Prop) → World → Prop) (i : Nat) (Y : Nat → Prop) (W : World) : Exit → Act → World → Prop
  | .normal, _, W' => ∃ Y', I (i + 1) Y' W' ∧ Round Y Y' W W'
  | .ret, _, W' => ∃ Y', Ixc .ret (i + 1) Y' W' ∧ Round Y Y' W W'
  | .exit id, _, W' => ∃ Y', Ixc (.exit id) (i + 1) Y' W' ∧ Round Y Y' W W'
  | .goto t, _, W' => ∃ Y', Ixc (.goto t) (i + 1) Y' W' ∧ Round Y Y' W W'
  | .panic _, _, _ => False
  | .outgrown, _, _ => False

variable {F : Fence} {n : Nat} {P : Program}

theorem rangeY {α : Type} {g : Operand} {ps : Array Tmp} {assign body : Code} {Q : Exit → Act → World → Prop} {a : Act} {w : World}
    (hro : F.round = none) (h1 : 1 ≤ n) {gf : Nat} {lb : Array Value} (hg : a.eval g = .func (.func gf) #[] lb) (hFg : F.fn gf) (eg : ∀ args w, (callFunc gf args).run P w = .ok (.enter gf args) w)
    {encs : α → Array Value} {ys : List α} {H : (Nat → Prop) → World → Prop} (hseq : Yields F (n - 1) P gf lb encs ys H) (hps : ∀ x, (encs x).size = ps.size)
    (I : Nat → (Nat → Prop) → World → Prop) (Ix : Code → Nat → (Nat → Prop) → World → Prop) (Y0 : Nat → Prop) (hY0 : ∀ k, Y0 k → k < w.heap.size)
    (hI : ∀ i Y A B, I i Y A → Keep w.heap.size Y A B → I i Y B) (hIx : ∀ c i Y A B, Ix c i Y A → Keep w.heap.size Y A B → Ix c i Y B)
    (h0 : I 0 Y0 w) (hH : ∀ W Z, Below w.heap.size w W → (∀ k, Z k → Y0 k ∨ w.heap.size ≤ k) → H Z W)
    (Ax : α → Act → World → Prop) (hAx : ∀ x a' A B, Ax x a' A → (∀ k, k < A.heap.size → (∃ c e f, A.heap[k]? = some (.cells c e f)) → B.heap[k]? = A.heap[k]?) → Ax x a' B)
    (hassign : ∀ (l i : Nat) (x : α) (Y : Nat → Prop) (W : World) (K : Act → World → Prop), ys[i]? = some x → I i Y W → (∀ k, Y k → k < W.heap.size) →
      (∀ a' W', Below W.heap.size W W' → Ax x a' W' → K a' W') →
      assign.wpIn (F.inRound l) (n - 1 - 1) P (Exit.then K (fun _ _ _ => False)) { tmps := (ps.zip (encs x)).foldl (fun t (p, v) => t.setIfInBounds p v) a.tmps, defers := [] } W)
    (hbody : ∀ (l i : Nat) (x : α) (a' : Act) (Y : Nat → Prop) (W : World), w.heap.size < l → (∃ r, W.heap[l]? = some (.loop r)) → ys[i]? = some x → I i Y W → (∀ k, Y k → k < W.heap.size) → Ax x a' W →
      body.wpIn (F.inRound l) (n - 1 - 1) P (bodyY I (fun _ _ _ => False) Ix i Y W) a' W)
    (hdone : ∀ (Y : Nat → Prop) (W : World), I ys.length Y W → W.heap[w.heap.size]? = some (.deferred (some [])) → Q .normal { a with defers := { target := .collected w.heap.size, args := #[] } :: a.defers } W)
    (hstop : ∀ (c : Code) (i : Nat) (Y : Nat → Prop) (W : World), Ix c i Y W → W.heap[w.heap.size]? = some (.deferred (some [])) → c.wpIn F n P Q { a with defers := { target := .collected w.heap.size, args := #[] } :: a.defers } W) :
    (Code.rangeFunc g ps assign body).wpIn F n P Q a w := by
  refine wpIn_rangeFunc ?_
  intro fn hfn
  rw [hro]
  obtain ⟨rec, hrec⟩ : ∃ rec : LoopState → Option Code → Loop, rec = fun st pe => { state := st, pending := pe, fn, tmps := a.tmps, params := ps, assign, body, defers := w.heap.size } := ⟨_, rfl⟩
  obtain ⟨W1, hW1⟩ : ∃ W1, (w.alloc (.deferred (some []))).alloc (.loop (rec .ready none)) = W1 := ⟨_, rfl⟩
  have hL1 : W1.heap[w.heap.size + 1]? = some (.loop (rec .ready none)) := by
    rw [← hW1]; have := World.alloc_heap_new (w.alloc (.deferred (some []))) (.loop (rec .ready none)); rwa [World.size_alloc] at this
  have hK1 : W1.heap[w.heap.size]? = some (.deferred (some [])) := by
    rw [← hW1]; exact (Below.heap_alloc _ _ _ (by simp)).trans (World.alloc_heap_new w _)
  have hz1 : W1.heap.size = w.heap.size + 2 := by rw [← hW1]; simp
  have hb1 : Below w.heap.size w W1 := by
    rw [← hW1]; exact (((Below.refl _ w).alloc (Nat.le_refl _) _).alloc (by simp) _)
  have hI1 : I 0 Y0 W1 := hI _ _ _ _ h0 (Keep.of_below hb1)
  refine ⟨w.heap.size + 1, [{ target := .collected w.heap.size, args := #[] }], W1, { target := .fn (.func gf) lb, args := #[.func (.yield (w.heap.size + 1)) #[] #[]] }, W1, gf,
    #[.func (.yield (w.heap.size + 1)) #[] #[]] ++ lb, W1, ?_, ?_, ?_, ?_, fun _ => h1, ?_⟩
  · rw [← hW1, hrec]; exact run_enterLoop_outer _ _ _ _ _
  · simp only [resolve, hg]
    simp [go_sem]
  · intro f' hf'; simp [Target.leads] at hf'; subst hf'; exact hFg
  · simp [invoke, go_sem, eg]
  · -- the iterator's contract, at the caller's invariant, the two facts of book-keeping beside it
    have keepW : ∀ {Y : Nat → Prop} {A B : World}, Keep W1.heap.size Y A B → Keep w.heap.size Y A B := fun h => h.less (by omega)
    refine (hseq (w.heap.size + 1)
      (fun i Y W => I i Y W ∧ (¬ Y w.heap.size ∧ ¬ Y (w.heap.size + 1)) ∧ W.heap[w.heap.size + 1]? = some (.loop (rec .ready none)) ∧ W.heap[w.heap.size]? = some (.deferred (some [])))
      (fun i Y W => ∃ c, Ix c i Y W ∧ (¬ Y w.heap.size ∧ ¬ Y (w.heap.size + 1)) ∧ W.heap[w.heap.size + 1]? = some (.loop (rec .done (some c))) ∧ W.heap[w.heap.size]? = some (.deferred (some [])))
      Y0 W1
      (fun i Y A B hs hk => ⟨hI _ _ _ _ hs.1 (keepW hk), hs.2.1, (hk.block _ (Array.getElem?_eq_some_iff.1 hs.2.2.1).1 (.inl (by omega))).trans hs.2.2.1, (hk.block _ (Array.getElem?_eq_some_iff.1 hs.2.2.2).1 (.inl (by omega))).trans hs.2.2.2⟩)
      (fun i Y A B hs hk => by
        obtain ⟨c, hc, hy, hl, hd⟩ := hs
        exact ⟨c, hIx _ _ _ _ _ hc (keepW hk), hy, (hk.block _ (Array.getElem?_eq_some_iff.1 hl).1 (.inl (by omega))).trans hl, (hk.block _ (Array.getElem?_eq_some_iff.1 hd).1 (.inl (by omega))).trans hd⟩)
      ?_ (fun k hk => by have := hY0 k hk; omega) (by omega) (hH W1 _ hb1 (fun k hk => by rcases hk with h | h; exact .inl h; right; omega)) ⟨hI1, ⟨fun h => by have := hY0 _ h; omega, fun h => by have := hY0 _ h; omega⟩, hL1, hK1⟩).mono ?_
    · -- one round
      rintro i x Y W hx ⟨hi, ⟨hy0, hy1⟩, hl, hk⟩ hlt0
      have hlt : w.heap.size + 1 < W.heap.size := (Array.getElem?_eq_some_iff.1 hl).1
      have hy := run_yield (P := P) (args := encs x) hl (by rw [hrec]; exact hps x)
      rw [hrec] at hy
      refine ⟨fn, _, assign, body, hy, roundIn_of_wpIn hfn (hassign _ i x Y W _ hx hi hlt0 ?_)⟩
      clear hy
      intro a' Wa hba hax
      have hla : Wa.heap[w.heap.size + 1]? = some (.loop (rec .ready none)) := (hba.block _ hlt).trans hl
      have hka : Wa.heap[w.heap.size]? = some (.deferred (some [])) := (hba.block _ (by omega)).trans hk
      have hlta : w.heap.size + 1 < Wa.heap.size := Nat.lt_of_lt_of_le hlt hba.size
      refine ⟨_, run_beginRound hla (by rw [hrec]), ?_⟩
      obtain ⟨Wb, hWb⟩ : ∃ Wb, Wa.putObj (w.heap.size + 1) (.loop { rec .ready none with state := .busy }) = Wb := ⟨_, rfl⟩
      have hl2 : Wb.heap[w.heap.size + 1]? = some (.loop { rec .ready none with state := .busy }) := by rw [← hWb]; exact World.putObj_heap_same hlta
      have hk2 : Wb.heap[w.heap.size]? = some (.deferred (some [])) := by rw [← hWb]; exact (World.putObj_heap_other (by omega)).trans hka
      have hsb : Wb.heap.size = Wa.heap.size := by rw [← hWb]; simp
      have kb : Keep w.heap.size Y W Wb := by rw [← hWb]; exact (Keep.of_below hba).putObj (by omega) hy1 _
      have hib : I i Y Wb := hI _ _ _ _ hi kb
      have haxb : Ax x a' Wb := hAx _ _ _ _ hax (fun k hk ⟨c, e, f, hc⟩ => by rw [← hWb]; exact World.putObj_heap_other (fun e' => by subst e'; rw [hla] at hc; cases hc))
      have hltb : ∀ k, Y k → k < Wb.heap.size := fun k hk => by have := hlt0 k hk; have := hba.size; omega
      rw [hWb]
      refine wpIn_mono (hbody _ i x a' Y Wb (by omega) ⟨_, hl2⟩ hx hib hltb haxb) ?_
      have fin : ∀ (jump : Option Code) (Y' : Nat → Prop) (W3 : World), Round Y Y' Wb W3 →
          (Instr.endRound (w.heap.size + 1) jump).run P W3 = .ok (.bool jump.isNone) (W3.putObj (w.heap.size + 1) (.loop (rec (if jump.isNone then .ready else .done) jump))) ∧
          (W3.putObj (w.heap.size + 1) (.loop (rec (if jump.isNone then .ready else .done) jump))).heap[w.heap.size + 1]? = some (.loop (rec (if jump.isNone then .ready else .done) jump)) ∧
          (W3.putObj (w.heap.size + 1) (.loop (rec (if jump.isNone then .ready else .done) jump))).heap[w.heap.size]? = some (.deferred (some [])) ∧
          Keep w.heap.size Y' W3 (W3.putObj (w.heap.size + 1) (.loop (rec (if jump.isNone then .ready else .done) jump))) ∧ (¬ Y' w.heap.size ∧ ¬ Y' (w.heap.size + 1)) := fun jump Y' W3 hr3 => by
        have hl3 := (hr3.block _ (by omega) hy1).trans hl2
        have hk3 := (hr3.block _ (by omega) hy0).trans hk2
        have o1 : ¬ Y' (w.heap.size + 1) := hr3.out (by omega) hy1
        have := run_endRound (P := P) jump hl3
        rw [hrec] at this ⊢
        exact ⟨this, World.putObj_heap_same (Array.getElem?_eq_some_iff.1 hl3).1, (World.putObj_heap_other (by omega)).trans hk3, (Keep.refl _ _ _).putObj (by omega) o1 _, hr3.out (by omega) hy0, o1⟩
      rintro e a3 W3 hp
      cases e with
      | normal =>
        obtain ⟨Y', hi3, hr3⟩ := hp
        obtain ⟨hr, hl4, hk4, hkp, ho⟩ := fin none Y' W3 hr3
        refine ⟨_, _, hr, .inl ⟨rfl, Y', ⟨hI _ _ _ _ hi3 hkp, ho, hl4, hk4⟩, ?_⟩⟩
        refine ⟨hr3.os.trans kb.os, hr3.tape.trans kb.tape, hr3.output.trans kb.output, ?_, fun k hk hnk => ?_, fun k hk => ?_, fun k hk => ?_⟩
        · have := hr3.size; have := kb.size; simp; omega
        · have hs := kb.size
          have hne : k ≠ w.heap.size + 1 := fun e => hnk (.inr e)
          have hny : ¬ Y k := fun h => hnk (.inl h)
          rw [World.putObj_heap_other hne, hr3.block k (by omega) hny, ← hWb, World.putObj_heap_other hne]
          exact hba.block k hk
        · rcases hk with hk | hk
          · rcases hr3.more k hk with h | h
            · exact .inl (.inl h)
            · right; have := kb.size; omega
          · exact .inl (.inr hk)
        · rcases hk with hk | hk
          · have := hr3.lt k hk; simpa using this
          · have := hr3.size; have := kb.size; subst hk; simp; omega
      | ret =>
        obtain ⟨Y', hi3, hr3⟩ := hp
        obtain ⟨hr, hl4, hk4, hkp, ho⟩ := fin (some .ret) Y' W3 hr3
        exact ⟨_, _, hr, .inr ⟨rfl, Y', .ret, hIx _ _ _ _ _ hi3 hkp, ho, hl4, hk4⟩⟩
      | exit id =>
        obtain ⟨Y', hi3, hr3⟩ := hp
        obtain ⟨hr, hl4, hk4, hkp, ho⟩ := fin (some (.exit id)) Y' W3 hr3
        exact ⟨_, _, hr, .inr ⟨rfl, Y', .exit id, hIx _ _ _ _ _ hi3 hkp, ho, hl4, hk4⟩⟩
      | goto t =>
        obtain ⟨Y', hi3, hr3⟩ := hp
        obtain ⟨hr, hl4, hk4, hkp, ho⟩ := fin (some (.goto t)) Y' W3 hr3
        exact ⟨_, _, hr, .inr ⟨rfl, Y', .goto t, hIx _ _ _ _ _ hi3 hkp, ho, hl4, hk4⟩⟩
      | panic ch => exact hp.elim
      | outgrown => exact hp.elim
    · -- behind the iterator
      rintro e W2 ⟨⟨v, rfl⟩, (⟨Y', hi, hy, hl, hk⟩ | ⟨i, Y', c, hi, hy, hl, hk⟩)⟩
      · exact ⟨none, _, by have := run_endLoop (P := P) hl (by rw [hrec]; simp); rw [hrec] at this; exact this, hdone Y' _ (hI _ _ _ _ hi ((Keep.refl _ _ _).putObj (by omega) hy.2 _)) ((World.putObj_heap_other (by omega)).trans hk)⟩
      · exact ⟨some c, _, by have := run_endLoop (P := P) hl (by rw [hrec]; simp); rw [hrec] at this; exact this, hstop c i Y' _ (hIx _ _ _ _ _ hi ((Keep.refl _ _ _).putObj (by omega) hy.2 _)) ((World.putObj_heap_other (by omega)).trans hk)⟩

end Go.Proofs.Ytdlmdaononclgaa
