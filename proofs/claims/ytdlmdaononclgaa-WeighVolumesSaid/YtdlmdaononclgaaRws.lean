import Derived.Test.YtdlmdaononclgaaApp
/- Slices of slices of numbers: read, and of the call's own. -/
namespace Go.Proofs.Ytdlmdaononclgaa
open Go.RowKit
set_option linter.unusedVariables false
set_option linter.unusedSimpArgs false

/-- the slice at an index; the row at an index. -/
def vx (vs : List Value) (i : Nat) : Value := vs.getD i (.slice none 0 0)
def rx (rs : List (List Int)) (i : Nat) : List Int := rs.getD i []
theorem vx_get {vs : List Value} {i : Nat} (h : i < vs.length) : vs[i]? = some (vx vs i) := by
  simp [vx, List.getD, List.getElem?_eq_getElem h]
theorem rx_get {rs : List (List Int)} {i : Nat} (h : i < rs.length) : rs[i]? = some (rx rs i) := by
  simp [rx, List.getD, List.getElem?_eq_getElem h]
theorem vx_set (vs : List Value) {i : Nat} (h : i < vs.length) (v : Value) (j : Nat) : vx (vs.set i v) j = if j = i then v else vx vs j := by
  simp only [vx, List.getD]
  by_cases e : j = i
  · subst e; rw [if_pos rfl, List.getElem?_set_self h]; rfl
  · rw [if_neg e, List.getElem?_set_ne (fun x => e x.symm)]
theorem rx_set (rs : List (List Int)) {i : Nat} (h : i < rs.length) (v : List Int) (j : Nat) : rx (rs.set i v) j = if j = i then v else rx rs j := by
  simp only [rx, List.getD]
  by_cases e : j = i
  · subst e; rw [if_pos rfl, List.getElem?_set_self h]; rfl
  · rw [if_neg e, List.getElem?_set_ne (fun x => e x.symm)]

/-- v is a slice that reads as xs, below block B. -/
def SL (w : World) (B : Nat) (v : Value) (xs : List Int) : Prop := ∃ A c, v = .slice A xs.length c ∧ xs.length ≤ c ∧ c ≤ 9223372036854775807 ∧ RD w B A (ints xs)
theorem SL.keep {w w' : World} {B B' : Nat} {v : Value} {xs : List Int} (h : SL w B v xs) (hb : Below B' w w') (hB : B ≤ B') : SL w' B v xs := by
  obtain ⟨A, c, rfl, h1, h2, h3⟩ := h
  exact ⟨A, c, rfl, h1, h2, h3.keep hb hB⟩
theorem SL.more {w : World} {B B' : Nat} {v : Value} {xs : List Int} (h : SL w B v xs) (hB : B ≤ B') : SL w B' v xs := by
  obtain ⟨A, c, rfl, h1, h2, h3⟩ := h
  exact ⟨A, c, rfl, h1, h2, h3.more hB⟩

/-- from A on lie the slices vs, which read as the rows rs. -/
structure RR (w : World) (B : Nat) (A : Option Addr) (vs : List Value) (rs : List (List Int)) : Prop where
  len : vs.length = rs.length
  rd : RD w B A vs
  each : ∀ i, i < rs.length → SL w B (vx vs i) (rx rs i)
theorem RR.keep {w w' : World} {B B' : Nat} {A : Option Addr} {vs : List Value} {rs : List (List Int)} (h : RR w B A vs rs) (hb : Below B' w w') (hB : B ≤ B') : RR w' B A vs rs :=
  ⟨h.len, h.rd.keep hb hB, fun i hi => (h.each i hi).keep hb hB⟩
theorem RR.more {w : World} {B B' : Nat} {A : Option Addr} {vs : List Value} {rs : List (List Int)} (h : RR w B A vs rs) (hB : B ≤ B') : RR w B' A vs rs :=
  ⟨h.len, h.rd.more hB, fun i hi => (h.each i hi).more hB⟩
theorem RR.cells {w : World} {B : Nat} {A : Option Addr} {vs : List Value} {rs : List (List Int)} (h : RR w B A vs rs) (hp : 0 < rs.length) :
    ∃ b off, A = some ⟨b, off, none⟩ ∧ b < B ∧ ∀ j, j < rs.length → w.cell? ⟨b, off + j, none⟩ = some (vx vs j) := by
  have hl := h.len
  rcases h.rd with e | ⟨b, off, rfl, hlt, hc⟩
  · rw [e] at hl; simp only [List.length_nil] at hl; omega
  · exact ⟨b, off, rfl, hlt, fun j hj => hc j _ (vx_get (by omega))⟩

/-- an own slice, of a world in which its block lies as it lay. -/
theorem OwnI.of_block {w w' : World} {base : Nat} {v : Value} {xs : List Int} (h : OwnI w base v xs) (hb : ∀ b, v.ownBlock = some b → w'.heap[b]? = w.heap[b]?) : OwnI w' base v xs := by
  refine ⟨h.1, ?_⟩
  rcases h.2 with hn | ⟨g, cap, cur, rfl, h1, hg, rest⟩
  · exact .inl hn
  · exact .inr ⟨g, cap, cur, rfl, h1, (hb g rfl).trans hg, rest⟩
theorem OwnI.sl {w : World} {base : Nat} {v : Value} {xs : List Int} (h : OwnI w base v xs) : SL w w.heap.size v xs := by
  obtain ⟨A, c, rfl, h1, h2, h3, _⟩ := h.form
  exact ⟨A, c, rfl, h1, h2, h3⟩

/-- block G holds the slices vs, each the call's own (from block base on), no two in one block. -/
structure ORows (w : World) (base G : Nat) (vs : List Value) (rs : List (List Int)) : Prop where
  len : vs.length = rs.length
  blk : w.heap[G]? = some (.cells vs.toArray 22 (0, 0))
  lt : G < base
  each : ∀ i, i < rs.length → OwnI w base (vx vs i) (rx rs i)
  apart : ∀ i j b, i < rs.length → j < rs.length → i ≠ j → (vx vs i).ownBlock = some b → (vx vs j).ownBlock ≠ some b
/-- the blocks of these. -/
def YR (G : Nat) (vs : List Value) (k : Nat) : Prop := k = G ∨ ∃ i, i < vs.length ∧ (vx vs i).ownBlock = some k

theorem ORows.in {w : World} {base G : Nat} {vs : List Value} {rs : List (List Int)} (h : ORows w base G vs rs) : ∀ k, YR G vs k → G ≤ k ∧ k < w.heap.size ∧ (k = G ∨ base ≤ k) := by
  intro k hk
  have hG := (Array.getElem?_eq_some_iff.1 h.blk).1
  have := h.lt
  rcases hk with rfl | ⟨i, hi, he⟩
  · exact ⟨Nat.le_refl _, hG, .inl rfl⟩
  · obtain ⟨_, _, _, _, _, _, _, hb⟩ := (h.each i (by rw [← h.len]; exact hi)).form
    have := hb k he
    exact ⟨by omega, this.2, .inr this.1⟩
theorem ORows.of_blocks {w w' : World} {base G : Nat} {vs : List Value} {rs : List (List Int)} (h : ORows w base G vs rs) (hb : ∀ k, YR G vs k → w'.heap[k]? = w.heap[k]?) : ORows w' base G vs rs :=
  ⟨h.len, (hb _ (.inl rfl)).trans h.blk, h.lt, fun i hi => (h.each i hi).of_block (fun b e => hb b (.inr ⟨i, by rw [h.len]; exact hi, e⟩)), h.apart⟩
theorem ORows.cell {w : World} {base G : Nat} {vs : List Value} {rs : List (List Int)} (h : ORows w base G vs rs) {i : Nat} (hi : i < rs.length) : w.cell? ⟨G, i, none⟩ = some (vx vs i) := by
  rw [cell_of_row w G i _ _ _ h.blk, List.getElem?_toArray, vx_get (by rw [h.len]; exact hi)]
theorem ORows.free {w : World} {base G : Nat} {vs : List Value} {rs : List (List Int)} (h : ORows w base G vs rs) (j : Nat) : w.frozen? ⟨G, j, none⟩ = false := by
  have := h.blk
  simp [World.frozen?, this]
theorem ORows.rr {w : World} {base G : Nat} {vs : List Value} {rs : List (List Int)} (h : ORows w base G vs rs) : RR w w.heap.size (some ⟨G, 0, none⟩) vs rs :=
  ⟨h.len, .inr ⟨G, 0, rfl, (Array.getElem?_eq_some_iff.1 h.blk).1, fun j v hv => by rw [Nat.zero_add, cell_of_row w G j _ _ _ h.blk, List.getElem?_toArray]; exact hv⟩, fun i hi => (h.each i hi).sl⟩

/-- one row has grown, and its slice is put back. -/
theorem ORows.put {W W' : World} {base G : Nat} {vs : List Value} {rs : List (List Int)} {i : Nat} {v' : Value} {ys : List Int} (h : ORows W base G vs rs) (hi : i < rs.length) (hbase : base ≤ W.heap.size)
    (hg : W.grownBy W' (vx vs i).ownBlock) (ho : OwnI W' base v' ys) (hv : v'.ownBlock = (vx vs i).ownBlock ∨ v'.ownBlock = some W.heap.size) :
    ORows (W'.setCell ⟨G, i, none⟩ v') base G (vs.set i v') (rs.set i ys) := by
  have hlt := h.lt
  have hGW := (Array.getElem?_eq_some_iff.1 h.blk).1
  have hrow : ∀ j, j < rs.length → ∀ b, (vx vs j).ownBlock = some b → base ≤ b ∧ b < W.heap.size := fun j hj b e => by
    obtain ⟨_, _, _, _, _, _, _, hb⟩ := (h.each j hj).form
    exact hb b e
  have hil : i < vs.length := by rw [h.len]; exact hi
  have hbG : W'.heap[G]? = some (.cells vs.toArray 22 (0, 0)) := (hg.block G hGW (fun e => by have := hrow i hi G e.symm; omega)).trans h.blk
  have hset : ∀ b, b ≠ G → (W'.setCell ⟨G, i, none⟩ v').heap[b]? = W'.heap[b]? := fun b hb => Below.heap_setCell _ _ _ _ hb
  refine ⟨by rw [List.length_set, List.length_set]; exact h.len, ?_, hlt, ?_, ?_⟩
  · simp [World.setCell, Array.getElem?_modify, hbG]
  · intro j hj
    rw [List.length_set] at hj
    rw [vx_set _ hil, rx_set _ hi]
    by_cases e : j = i
    · rw [if_pos e, if_pos e]
      refine ho.of_block (fun b hb => hset b ?_)
      obtain ⟨_, _, _, _, _, _, _, hb'⟩ := ho.form
      have := hb' b hb
      omega
    · rw [if_neg e, if_neg e]
      refine (h.each j hj).of_block (fun b hb => ?_)
      have hbr := hrow j hj b hb
      exact (hset b (by omega)).trans (hg.block b hbr.2 (fun x => h.apart i j b hi hj (fun q => e q.symm) x.symm hb))
  · intro j k b hj hk hne hb hb'
    rw [List.length_set] at hj hk
    rw [vx_set _ hil] at hb hb'
    have fresh : ∀ m, m < rs.length → m ≠ i → ∀ b, (vx vs m).ownBlock = some b → v'.ownBlock ≠ some b := fun m hm hmi b hmb hvb => by
      rcases hv with e | e
      · exact h.apart m i b hm hi hmi hmb (e ▸ hvb)
      · rw [e] at hvb
        have := hrow m hm b hmb
        simp only [Option.some.injEq] at hvb
        omega
    by_cases e1 : j = i
    · rw [if_pos e1] at hb
      rw [if_neg (by omega)] at hb'
      exact fresh k hk (by omega) b hb' hb
    · rw [if_neg e1] at hb
      by_cases e2 : k = i
      · rw [if_pos e2] at hb'
        exact fresh j hj e1 b hb hb'
      · rw [if_neg e2] at hb'
        exact h.apart j k b hj hk hne hb hb'

/-- what that is as a round's doing. -/
theorem ORows.put_round {W0 W W' : World} {base G : Nat} {vs : List Value} {rs : List (List Int)} {i : Nat} {v' : Value} {ys : List Int} (h0 : ORows W0 base G vs rs) (hb0 : Below W0.heap.size W0 W) (hi : i < rs.length)
    (hbase : base ≤ W0.heap.size) (hg : W.grownBy W' (vx vs i).ownBlock) (ho : OwnI W' base v' ys) (hv : v'.ownBlock = (vx vs i).ownBlock ∨ v'.ownBlock = some W.heap.size) :
    ORows (W'.setCell ⟨G, i, none⟩ v') base G (vs.set i v') (rs.set i ys) ∧ Round (YR G vs) (YR G (vs.set i v')) W0 (W'.setCell ⟨G, i, none⟩ v') := by
  have hin := h0.in
  have hil : i < vs.length := by rw [h0.len]; exact hi
  have h1 : ORows W base G vs rs := h0.of_blocks (fun k hk => hb0.block k (hin k hk).2.1)
  have h2 := h1.put hi (Nat.le_trans hbase hb0.size) hg ho hv
  have hs0 := hb0.size
  have hs1 := hg.size
  refine ⟨h2, ⟨hg.os.trans hb0.os, hg.tape.trans hb0.tape, hg.output.trans hb0.output, ?_, ?_, ?_, ?_⟩⟩
  · simp [World.setCell]; omega
  · intro k hk hy
    rw [Below.heap_setCell _ _ _ _ (fun e => hy (.inl e))]
    exact (hg.block k (by omega) (fun e => hy (.inr ⟨i, hil, e.symm⟩))).trans (hb0.block k hk)
  · intro k hk
    rcases hk with rfl | ⟨j, hj, e⟩
    · exact .inl (.inl rfl)
    · rw [List.length_set] at hj
      rw [vx_set _ hil] at e
      by_cases hji : j = i
      · rw [if_pos hji] at e
        rcases hv with h | h
        · exact .inl (.inr ⟨i, hil, h ▸ e⟩)
        · rw [h] at e; simp only [Option.some.injEq] at e; right; omega
      · rw [if_neg hji] at e
        exact .inl (.inr ⟨j, hj, e⟩)
  · exact fun k hk => (h2.in k hk).2.1

/-- n empty rows, laid new. -/
theorem ORows.new (W : World) (n base : Nat) (hb : W.heap.size < base) : ORows (W.alloc (.cells (List.replicate n (Value.slice none 0 0)).toArray 22)) base W.heap.size (List.replicate n (.slice none 0 0)) (List.replicate n []) := by
  have e : ∀ i, i < n → vx (List.replicate n (Value.slice none 0 0)) i = .slice none 0 0 := fun i hi => by simp [vx, List.getD, List.getElem?_replicate, hi]
  have e2 : ∀ i, i < n → rx (List.replicate n ([] : List Int)) i = [] := fun i hi => by simp [rx, List.getD, List.getElem?_replicate, hi]
  refine ⟨by simp, heap_alloc_new W _, hb, fun i hi => ?_, fun i j b hi hj hne hb => ?_⟩
  · rw [List.length_replicate] at hi
    rw [e i hi, e2 i hi]; exact OwnI.nil _ _
  · rw [List.length_replicate] at hi
    rw [e i hi] at hb; cases hb

/-- an own slice's block holds numbers. -/
theorem OwnI.kind {w : World} {base : Nat} {v : Value} {xs : List Int} (h : OwnI w base v xs) {b : Nat} (hb : v.ownBlock = some b) : ∃ cs, w.heap[b]? = some (.cells cs 3 (0, 0)) := by
  rcases h.2 with ⟨rfl, _⟩ | ⟨g, cap, cur, rfl, h1, hg, _⟩
  · cases hb
  · simp only [Value.ownBlock, Option.some.injEq] at hb
    subst hb
    exact ⟨_, hg⟩

variable {w : World}
/-- appending one number to an own slice, as in App, with the block of the result beside it. -/
theorem wpList_app2 {ops : Array Oper} {rest : List Oper} {o : Oper} {a : Act} {Q : Exit → Act → World → Prop} (hgd : o.guard = none) (s x : Operand)
    (ho : o.op = .call { callee := .builtin .append, args := #[s, x], argTypes := #[22, 22] })
    (base : Nat) (v : Value) (xs : List Int) (hs : a.eval s = v) (hown : OwnI w base v xs) (g c : Nat) (y : Int) (hx : a.eval x = .slice (some ⟨g, 0, none⟩) 1 c) (hc : w.cell? ⟨g, 0, none⟩ = some (.int .i64 y))
    (hlen : xs.length ≤ 1000000) (hbase : base ≤ w.heap.size)
    (h : ∀ v' w', OwnI w' base v' (xs ++ [y]) → w.grownBy w' v.ownBlock → (v'.ownBlock = v.ownBlock ∨ v'.ownBlock = some w.heap.size) → wpList Try.prog ops Q rest (a.put o.dst v') w') : wpList Try.prog ops Q (o :: rest) a w := by
  obtain ⟨i0, hi, hz0, hz1, hz2⟩ := info_parts infoInt
  refine wpList_plain hgd fun K hK => ?_
  obtain ⟨v', w', hrun, h2, h3, _, h5⟩ := run_append_own_at (P := Try.prog) w base 22 o.type 3 i0 (.int .i64 0) 1 8 Try.underlying22 hi hz0 hz1 hz2 rfl (by decide) v xs.length (ints xs) hown
    ⟨g, 0, none⟩ 1 c [.int .i64 y] rfl (fun j u hu => by
      match j, hu with
      | 0, hu => simp at hu; subst hu; exact hc) (by simp [Value.oneCell']) (by unfold maxLen; omega) (by omega) hbase
  unfold Oper.wp execOp
  simp only [ho, resolve, invoke, builtin, Sem.run_bind, Sem.run_pure, Result.andThen_ok, List.map_toArray, List.map_cons, List.map_nil, hs, hx, hrun]
  refine hK _ _ (h v' w' ?_ h3 h5)
  unfold OwnI
  rw [List.length_append]
  simpa [ints] using h2

/-- the same at an operation of a region that draws. -/
theorem op_app2 {ops : Array Oper} {o : Oper} {a : Act} {K : Act → World → Prop} {Q : Exit → Act → World → Prop} {E : Prop} (hgd : o.guard = none) (s x : Operand)
    (ho : o.op = .call { callee := .builtin .append, args := #[s, x], argTypes := #[22, 22] })
    (base : Nat) (v : Value) (xs : List Int) (hs : a.eval s = v) (hown : OwnI w base v xs) (g c : Nat) (y : Int) (hx : a.eval x = .slice (some ⟨g, 0, none⟩) 1 c) (hc : w.cell? ⟨g, 0, none⟩ = some (.int .i64 y))
    (hlen : xs.length ≤ 1000000) (hbase : base ≤ w.heap.size)
    (h : ∀ v' w', OwnI w' base v' (xs ++ [y]) → w.grownBy w' v.ownBlock → (v'.ownBlock = v.ownBlock ∨ v'.ownBlock = some w.heap.size) → K (a.put o.dst v') w') :
    if Region.wanted o (yielded ops a.tmps) = true then Oper.wp Try.prog o a w K Q else E := by
  have hw : Region.wanted o (yielded ops a.tmps) = true := by simp [Region.wanted, hgd]
  rw [if_pos hw]
  obtain ⟨i0, hi, hz0, hz1, hz2⟩ := info_parts infoInt
  obtain ⟨v', w', hrun, h2, h3, _, h5⟩ := run_append_own_at (P := Try.prog) w base 22 o.type 3 i0 (.int .i64 0) 1 8 Try.underlying22 hi hz0 hz1 hz2 rfl (by decide) v xs.length (ints xs) hown
    ⟨g, 0, none⟩ 1 c [.int .i64 y] rfl (fun j u hu => by
      match j, hu with
      | 0, hu => simp at hu; subst hu; exact hc) (by simp [Value.oneCell']) (by unfold maxLen; omega) (by omega) hbase
  unfold Oper.wp execOp
  simp only [ho, resolve, invoke, builtin, Sem.run_bind, Sem.run_pure, Result.andThen_ok, List.map_toArray, List.map_cons, List.map_nil, hs, hx, hrun]
  refine h v' w' ?_ h3 h5
  unfold OwnI
  rw [List.length_append]
  simpa [ints] using h2

end Go.Proofs.Ytdlmdaononclgaa
