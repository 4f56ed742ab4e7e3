import Derived.Test.YtdlmdaononclgaaRefG
import Derived.Test.YtdlmdaononclgaaWt3
import Derived.Maps.OwnIn
import Derived.RangeFuncBox
/- Collecting the groups: slices.AppendSeq, slices.Collect; the program's Groups. -/
namespace Go.Proofs.Ytdlmdaononclgaa
open Go.RowKit
set_option linter.unusedVariables false
set_option linter.unusedSimpArgs false
attribute [local go_sem] Oper.semAt_some

theorem OwnG.of_block {w w' : World} {base : Nat} {v : Value} {gs : List (Int × Int)} (h : OwnG w base v gs) (hb : ∀ b, v.ownBlock = some b → w'.heap[b]? = w.heap[b]?) : OwnG w' base v gs := by
  refine ⟨h.1, ?_⟩
  rcases h.2 with hn | ⟨g, cap, cur, rfl, h1, hg, rest⟩
  · exact .inl hn
  · exact .inr ⟨g, cap, cur, rfl, h1, (hb g rfl).trans hg, rest⟩
theorem OwnG.less {w : World} {base base' : Nat} {v : Value} {gs : List (Int × Int)} (h : OwnG w base v gs) (hb : base' ≤ base) : OwnG w base' v gs := by
  refine ⟨h.1, ?_⟩
  rcases h.2 with hn | ⟨g, cap, cur, rfl, h1, rest⟩
  · exact .inl hn
  · exact .inr ⟨g, cap, cur, rfl, by omega, rest⟩
theorem OwnG.lt {w : World} {base : Nat} {v : Value} {gs : List (Int × Int)} (h : OwnG w base v gs) : ∀ b, v.ownBlock = some b → base ≤ b ∧ b < w.heap.size := by
  obtain ⟨_, _, _, _, _, _, _, hb⟩ := h.form
  exact hb

variable {w : World}
/-- appending one group to an own slice, in a round. -/
theorem wpListIn_appG {F : Fence} {nF : Nat} {ops : Array Oper} {rest : List Oper} {o : Oper} {a : Act} {Q : Exit → Act → World → Prop} (hgd : o.guard = none) (s x : Operand)
    (ho : o.op = .call { callee := .builtin .append, args := #[s, x], argTypes := #[47, 47] })
    (base : Nat) (v : Value) (gs : List (Int × Int)) (hs : a.eval s = v) (hown : OwnG w base v gs) (g c : Nat) (y z : Int) (hx : a.eval x = .slice (some ⟨g, 0, none⟩) 1 c)
    (hc0 : w.cell? ⟨g, 0, none⟩ = some (.int .i64 y)) (hc1 : w.cell? ⟨g, 1, none⟩ = some (.int .i64 z))
    (hlen : gs.length ≤ 1000000) (hbase : base ≤ w.heap.size)
    (h : ∀ v' w', OwnG w' base v' (gs ++ [(y, z)]) → w.grownBy w' v.ownBlock → (v'.ownBlock = v.ownBlock ∨ v'.ownBlock = some w.heap.size) → wpListIn F nF Try.prog ops Q rest (a.put o.dst v') w') : wpListIn F nF Try.prog ops Q (o :: rest) a w := by
  obtain ⟨i0, hi, hz0, hz1, hz2⟩ := info_parts infoGroup
  refine wpListIn_append_own_at w hgd s x 47 ho base 57 i0 _ 2 16 Try.underlying47 hi hz0 hz1 hz2 rfl (by decide) v gs.length (gcells gs) hs hown
    ⟨g, 0, none⟩ 1 c [.int .i64 y, .int .i64 z] hx rfl (fun j u hu => by
      match j, hu with
      | 0, hu => simp at hu; subst hu; exact hc0
      | 1, hu => simp at hu; subst hu; exact hc1) (by simp [Value.oneCell']) (by unfold maxLen; omega) (by omega) hbase ?_
  intro v' w' h2 h3 _ h5
  refine h v' w' ?_ h3 h5
  unfold OwnG
  rw [List.length_append, gcells_append]
  exact h2

/-- what holds between two rounds of AppendSeq: the box holds what has been collected. -/
structure CI (w : World) (gs : List (Int × Int)) (i : Nat) (Y : Nat → Prop) (W : World) : Prop where
  box : ∃ v, W.heap[w.heap.size]? = some (.cells #[v] 47 (0, 0)) ∧ OwnG W (w.heap.size + 1) v (gs.take i) ∧ ∀ k, Y k ↔ (k = w.heap.size ∨ v.ownBlock = some k)
  below : Below w.heap.size w W
theorem CI.size {w : World} {gs : List (Int × Int)} {i : Nat} {Y : Nat → Prop} {W : World} (h : CI w gs i Y W) : w.heap.size < W.heap.size := by
  obtain ⟨v, hb, _⟩ := h.box
  exact (Array.getElem?_eq_some_iff.1 hb).1
theorem CI.keep {w : World} {gs : List (Int × Int)} {i D : Nat} {Y : Nat → Prop} {W W' : World} (h : CI w gs i Y W) (k : Keep D Y W W') (hD : w.heap.size + 1 ≤ D) : CI w gs i Y W' := by
  have hs := h.size
  obtain ⟨v, hb, ho, hY⟩ := h.box
  exact ⟨⟨v, (k.block _ hs (.inl (by omega))).trans hb, ho.of_block (fun b hbb => k.block b (ho.lt b hbb).2 (.inr ((hY b).2 (.inr hbb)))), hY⟩, k.below (by omega) h.below (by omega)⟩
/-- one more has been collected. -/
theorem CI.next {w : World} {gs : List (Int × Int)} {i : Nat} {Y : Nat → Prop} {W w1 : World} {x : Int × Int} {v v' : Value} {o : Obj} (h : CI w gs i Y W) (hx : gs[i]? = some x) (hb : W.heap[w.heap.size]? = some (.cells #[v] 47 (0, 0)))
    (ho : OwnG w1 (w.heap.size + 1) v' (gs.take i ++ [x])) (hg : (W.alloc o).grownBy w1 v.ownBlock) (hv : v'.ownBlock = v.ownBlock ∨ v'.ownBlock = some (W.alloc o).heap.size) :
    ∃ Y', CI w gs (i + 1) Y' (w1.setCell ⟨w.heap.size, 0, none⟩ v') ∧ Round Y Y' W (w1.setCell ⟨w.heap.size, 0, none⟩ v') := by
  have hs := h.size
  obtain ⟨v2, hb2, ho2, hY⟩ := h.box
  obtain rfl : v2 = v := by rw [hb2] at hb; simpa using hb
  have hlt := ho2.lt
  have hlt' := ho.lt
  have hsz := hg.size
  rw [World.size_alloc] at hsz hv
  have hbk : ∀ k, k < W.heap.size → ¬ Y k → (w1.setCell ⟨w.heap.size, 0, none⟩ v').heap[k]? = W.heap[k]? := fun k hk hn => by
    rw [Below.heap_setCell _ _ _ _ (fun e => hn ((hY k).2 (.inl e)))]
    rw [hg.block k (by rw [World.size_alloc]; omega) (fun e => hn ((hY k).2 (.inr e.symm)))]
    exact Below.heap_alloc _ _ _ hk
  have hbox : w1.heap[w.heap.size]? = some (.cells #[v2] 47 (0, 0)) := by
    rw [hg.block w.heap.size (by rw [World.size_alloc]; omega) (fun e => by have := (hlt _ e.symm).1; omega), Below.heap_alloc _ _ _ hs]; exact hb2
  refine ⟨fun k => k = w.heap.size ∨ v'.ownBlock = some k, ⟨⟨v', ?_, ?_, fun k => Iff.rfl⟩, ?_⟩, ⟨?_, ?_, ?_, ?_, hbk, ?_, ?_⟩⟩
  · simp [World.setCell, Array.getElem?_modify, hbox]
  · rw [List.take_add_one, hx]
    exact ho.of_block (fun b hbb => Below.heap_setCell _ _ _ _ (fun e => by have := (hlt' b hbb).1; simp only at e; omega))
  · exact h.below.trans ⟨hg.os, hg.tape, hg.output, by simp [World.setCell]; omega, fun k hk => hbk k (by omega) (fun hy => by
      rcases (hY k).1 hy with e | e
      · omega
      · have := (hlt k e).1; omega)⟩
  · exact hg.os
  · exact hg.tape
  · exact hg.output
  · simp [World.setCell]; omega
  · intro k hk
    rcases hk with rfl | e
    · exact .inl ((hY _).2 (.inl rfl))
    · rcases hv with e2 | e2
      · exact .inl ((hY _).2 (.inr (e2 ▸ e)))
      · rw [e2] at e; simp only [Option.some.injEq] at e; right; omega
  · intro k hk
    rcases hk with rfl | e
    · simp [World.setCell]; omega
    · have := (hlt' k e).2; simpa [World.setCell] using this

set_option maxHeartbeats 2000000 in
set_option maxRecDepth 100000 in
theorem AppendSeq_any (xs : List Int) (A : Option Addr) (c q : Nat) (hP : OkP 9 100000 xs) (hc : xs.length ≤ c) (hm : c ≤ 9223372036854775807) (w : World) (hq : w.cell? ⟨q, 0, none⟩ = some (.slice A xs.length c)) (hql : q < w.heap.size) (h : RD w w.heap.size A (ints xs)) :
    Calls Try.prog 107 #[.slice none 0 0, .func (.func 108) #[] #[.pointer (some ⟨q, 0, none⟩)]] w (RetG (groupsZ xs) w) := by
  have hl2 := hP.two
  obtain ⟨b, off, rfl, hb, hcell⟩ := h.ints (by omega)
  have HC := Lib.hid hcell
  have HQ := Lib.hid hq
  clear hcell h hq
  refine (callsIn_wide (n := 9)).1 ?_
  refine callsIn_of_wp_marks Try.func107 rfl trivial ?_ rfl
  simp only [Try.ntmps107, List.size_toArray, List.length_cons, List.length_nil, Nat.reduceAdd, Nat.reduceSub, Array.replicate_succ, Array.replicate_zero, List.push_toArray, List.append_toArray, List.nil_append, List.cons_append]
  gi_wp2
  refine rangeY (F := Fence.wide) (encs := encG) (ys := groupsZ xs) (H := HG q xs (some ⟨b, off, none⟩) c) rfl (by omega) (gf := 108) (lb := #[.pointer (some ⟨q, 0, none⟩)]) rfl trivial (enters_of Try.func108 (by kernel_rfl) rfl)
    (groups1_yields _ q xs _ c hP hc hm) (fun _ => rfl)
    (CI w (groupsZ xs)) (fun _ _ _ _ => False) (fun k => k = w.heap.size) (fun k hk => by subst hk; simp)
    (fun i Y A B h k => h.keep k (by simp)) (fun _ _ _ _ _ h _ => h)
    ?start ?hH
    (fun x a' W => ∃ p, a' = { tmps := #[.slice none 0 0, .func (.func 108) #[] #[.pointer (some ⟨q, 0, none⟩)], .pointer (some ⟨w.heap.size, 0, none⟩), undef, .slice none 0 0, .pointer (some ⟨p, 0, none⟩), .func (.func 108) #[] #[.pointer (some ⟨q, 0, none⟩)], .agg #[.int .i64 x.1, .int .i64 x.2], undef, undef, undef, undef, undef], defers := [] } ∧ w.heap.size + 1 ≤ p ∧ p < W.heap.size ∧ W.heap[p]? = some (.cells #[.int .i64 x.1, .int .i64 x.2] 57 (0, 0)))
    ?hAx ?assign ?body ?done (fun _ _ _ _ h => h.elim)
  case start =>
    refine ⟨⟨.slice none 0 0, heap_alloc_new w _, OwnG.nil _ _, fun k => ⟨.inl, fun h => h.elim id (fun e => by cases e)⟩⟩, by repeat' (first | (with_reducible exact Below.refl _ _) | (with_reducible assumption) | (refine below_step (by assumption) ?_ ?_) | (with_reducible refine below_drewN ?_ _) | (with_reducible refine Below.drew ?_) | (with_reducible refine Below.alloc ?_ ?_ _) | (with_reducible refine Below.setCell ?_ ?_ _) | go_size)⟩
  case hH =>
    intro W Z hB hZ
    have hs := hB.size
    simp only [World.size_alloc] at hs
    have hzk : ∀ k, Z k → w.heap.size ≤ k := fun k hk => by
      rcases hZ k hk with h | h
      · omega
      · simp only [World.size_alloc] at h; omega
    have hB' : Below w.heap.size w W := below_step hB (Below.alloc (Below.refl _ _) (Nat.le_refl _) _) (by rw [World.size_alloc]; omega)
    exact ⟨cell_later hB' HQ.out, by omega, fun h => by have := hzk _ h; omega, b, off, rfl, by omega, fun h => by have := hzk _ h; omega, fun j hj => cell_later hB' (HC.out j hj)⟩
  case hAx =>
    rintro x a' A B ⟨p, rfl, h1, h2, h3⟩ hk
    have := hk p h2 ⟨_, _, _, h3⟩
    exact ⟨p, rfl, h1, (Array.getElem?_eq_some_iff.1 (this.trans h3)).1, this.trans h3⟩
  case assign =>
    intro l i x Y W K hx hI hlt hK
    have hz := hI.size
    have HK := Lib.hid hK
    have HI := Lib.hid hI
    clear hK hI hlt
    simp only [encG]
    gi_wp2
    exact HK.out _ _ (by go_grown) ⟨_, rfl, hz, by simp, heap_alloc_new W _⟩
  case body =>
    rintro l i x a' Y W hl ⟨r, hr⟩ hx hI hlt ⟨p, rfl, hp1, hpl, hp⟩
    have p0 : W.cell? ⟨p, 0, none⟩ = some (.int .i64 x.1) := by rw [cell_of_row W p 0 _ _ _ hp]; rfl
    have p1 : W.cell? ⟨p, 1, none⟩ = some (.int .i64 x.2) := by rw [cell_of_row W p 1 _ _ _ hp]; rfl
    have hsz := hI.size
    obtain ⟨v, hbx, hown, hY⟩ := hI.box
    have b0 : W.cell? ⟨w.heap.size, 0, none⟩ = some v := by rw [cell_of_row W _ 0 _ _ _ hbx]; rfl
    have hown2 := hown.lt
    have hgl := groups_length xs
    have hlen : ((groupsZ xs).take i).length ≤ 1000000 := by have := hP.many; rw [List.length_take]; omega
    have HI := Lib.hid hI
    have HO := Lib.hid hown
    have HX := Lib.hid hx
    have HBX := Lib.hid hbx
    have HLT := Lib.hid hown2
    clear hI hown hx hlt hr hl hY hp hbx hown2 hgl
    gi_wp2_with (gi_at_builtin; refine wpListIn_appG rfl _ _ rfl (w.heap.size + 1) v _ rfl (HO.out.kept (by repeat' (first | (with_reducible exact Below.refl _ _) | (with_reducible assumption) | (refine below_step (by assumption) ?_ ?_) | (with_reducible refine below_drewN ?_ _) | (with_reducible refine Below.drew ?_) | (with_reducible refine Below.alloc ?_ ?_ _) | (with_reducible refine Below.setCell ?_ ?_ _) | go_size)) (Nat.le_refl _)) W.heap.size 1 x.1 x.2 rfl (cells_new2 W _ _ _).1 (cells_new2 W _ _ _).2 hlen (by simp; omega) ?_; intro v' w1 hown' hgrow hob; obtain ⟨A4, c4, hv4, _⟩ := hown'.form; have hnx := Lib.hid (HI.out.next HX.out HBX.out hown' hgrow hob); obtain ⟨n4, hn4⟩ : ∃ n4, ((groupsZ xs).take i ++ [x]).length = n4 := ⟨_, rfl⟩; rw [hn4] at hv4; subst hv4; have hbx1 := (hgrow.block w.heap.size (by rw [World.size_alloc]; omega) (fun e => by have := (HLT.out _ e.symm).1; omega)).trans ((Below.heap_alloc _ _ _ hsz).trans HBX.out); have k1 : w1.cell? ⟨w.heap.size, 0, none⟩ = some v := (by rw [cell_of_row w1 _ 0 _ _ _ hbx1]; rfl); have k2 : w1.frozen? ⟨w.heap.size, 0, none⟩ = false := (by simp [World.frozen?, hbx1]); clear hbx1 hown' hgrow hob)
    exact hnx.out
  case done =>
    intro Y W hI hD
    have hsz := hI.size
    obtain ⟨v, hbx, hown, hY⟩ := hI.box
    have b0 : W.cell? ⟨w.heap.size, 0, none⟩ = some v := by rw [cell_of_row W _ 0 _ _ _ hbx]; rfl
    have HI := Lib.hid hI
    have HD := Lib.hid hD
    have HO := Lib.hid hown
    clear hI hD hown hY hbx
    gi_wp2
    refine ⟨by simp, .inl ⟨_, _, rfl, run_takeDeferred HD.out, ?_⟩⟩
    rw [List.take_length] at HO
    refine ⟨_, results_tmp rfl _ _ _, v, rfl, ?_, ?_⟩
    · exact OwnG.less (base := w.heap.size + 1) (ownsRow_putObj HO.out _ HD.out rfl) (by omega)
    · exact ((Keep.refl (w.heap.size + 1) (fun _ => False) W).putObj (by simp) (fun h => h) (.deferred none)).below (by omega) HI.out.below (by omega)

theorem Collect_any (xs : List Int) (A : Option Addr) (c q : Nat) (hP : OkP 9 100000 xs) (hc : xs.length ≤ c) (hm : c ≤ 9223372036854775807) (w : World) (hq : w.cell? ⟨q, 0, none⟩ = some (.slice A xs.length c)) (hql : q < w.heap.size) (h : RD w w.heap.size A (ints xs)) :
    Calls Try.prog 72 #[.func (.func 108) #[] #[.pointer (some ⟨q, 0, none⟩)]] w (RetG (groupsZ xs) w) := by
  have H := Lib.hid (AppendSeq_any xs A c q hP hc hm w hq hql h)
  clear h hq
  go_enter Try.func72, Try.ntmps72
  go_wp2_with (go_at_call 107; (with_reducible refine H.out.mono ?_); rintro e w1 ⟨v, rfl, hown, hb⟩)
  go_ret
  exact ⟨v, rfl, hown, hb⟩
/-- slices.Collect(groups(l)), at the iterator's box. -/
theorem collected {xs : List Int} {A : Option Addr} {c : Nat} (hP : OkP 9 100000 xs) (hc : xs.length ≤ c) (hm : c ≤ 9223372036854775807) {w : World} (h : RD w w.heap.size A (ints xs)) :
    Calls Try.prog 72 #[.func (.func 108) #[] #[.pointer (some ⟨w.heap.size, 0, none⟩)]] (w.alloc (.cells #[.slice A xs.length c] 22)) fun e w' => ∃ v, e = .returned v ∧ OwnG w' w.heap.size v (groupsZ xs) ∧ Below w.heap.size w w' := by
  refine (Collect_any xs A c w.heap.size hP hc hm _ (by simp [go_sem]) (by simp) ((h.keep (Below.alloc (Below.refl _ _) (Nat.le_refl _) _) (Nat.le_refl _)).more (by simp))).mono ?_
  rintro e w' ⟨v, rfl, hown, hb⟩
  exact ⟨v, rfl, hown.less (by simp), below_step hb (Below.alloc (Below.refl _ _) (Nat.le_refl _) _) (by simp)⟩

set_option maxHeartbeats 1000000 in
theorem Groups_yes {xs : List Int} (hp : okP 9 100000 xs = true) (A : Option Addr) (c : Nat) (hc : xs.length ≤ c) (hm : c ≤ 9223372036854775807) (w : World) (h : RD w w.heap.size A (ints xs)) :
    Calls Try.prog 27 #[.slice A xs.length c] w fun e w' => ∃ v, e = .returned (.tuple #[v, .int .i64 0]) ∧ OwnG w' w.heap.size v (groupsZ xs) ∧ Below w.heap.size w w' := by
  have H := Lib.hid (collected (okP_true hp) hc hm h)
  go_enter Try.func27, Try.ntmps27
  go_wp2_with (first | (go_at_call 31; (with_reducible refine (CheckPlaces_yes hp A c _ hc hm h).mono ?_); rintro e w' ⟨rfl, rfl⟩) | (go_at_call 73; (with_reducible refine (groups_any _ _ _ _).mono ?_); rintro e w' ⟨rfl, rfl⟩) | (go_at_call 72; (with_reducible refine H.out.mono ?_); rintro e w1 ⟨v, rfl, hown, hb⟩))
  go_ret2
  exact ⟨v, rfl, hown, hb⟩
theorem Groups_no {xs : List Int} (hp : okP 9 100000 xs = false) (A : Option Addr) (c : Nat) (hc : xs.length ≤ c) (hm : c ≤ 9223372036854775807) (w : World) (h : RD w w.heap.size A (ints xs)) :
    Calls Try.prog 27 #[.slice A xs.length c] w fun e w' => e = .returned (.tuple #[.slice none 0 0, .int .i64 12]) ∧ w = w' := by
  go_enter Try.func27, Try.ntmps27
  go_wp2_with (first | (go_at_call 31; (with_reducible refine (CheckPlaces_no hp A c _ hc hm h).mono ?_); rintro e w' ⟨rfl, rfl⟩))
  go_ret2
  exact ⟨rfl, rfl⟩

end Go.Proofs.Ytdlmdaononclgaa
