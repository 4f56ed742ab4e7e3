import Derived.Test.YtdlmdaononclgaaSlP
import Derived.Test.YtdlmdaononclgaaMB
import Derived.Test.YtdlmdaononclgaaCollG
import Derived.Deep.RegionHeld3
import Derived.Outline
/- The program's areParts. -/
namespace Go.Proofs.Ytdlmdaononclgaa
open Go.RowKit
set_option linter.unusedVariables false
set_option linter.unusedSimpArgs false
attribute [local go_sem] Oper.semAt_some

/-- what holds between two rounds of areParts: the box at T holds the parts so far; w is the world behind the first box. -/
structure AI (w : World) (T : Nat) (g0 gs : List (Int × Int)) (d : Int) (i : Nat) (Y : Nat → Prop) (W : World) : Prop where
  box : ∃ v, W.heap[T]? = some (.cells #[v] 47 (0, 0)) ∧ OwnG W w.heap.size v (g0 ++ shiftG d (gs.take i)) ∧ v.ownBlock ≠ some T ∧ ∀ k, Y k ↔ (k = T ∨ v.ownBlock = some k)
  below : Below w.heap.size w W
  lo : w.heap.size ≤ T
theorem AI.size {w : World} {T : Nat} {g0 gs : List (Int × Int)} {d : Int} {i : Nat} {Y : Nat → Prop} {W : World} (h : AI w T g0 gs d i Y W) : T < W.heap.size := by
  obtain ⟨v, hb, _⟩ := h.box
  exact (Array.getElem?_eq_some_iff.1 hb).1
theorem AI.keep {w : World} {T : Nat} {g0 gs : List (Int × Int)} {d : Int} {i D : Nat} {Y : Nat → Prop} {W W' : World} (h : AI w T g0 gs d i Y W) (k : Keep D Y W W') (hD : T < D) : AI w T g0 gs d i Y W' := by
  have hs := h.size
  have hl := h.lo
  obtain ⟨v, hb, ho, hn, hY⟩ := h.box
  exact ⟨⟨v, (k.block _ hs (.inl hD)).trans hb, ho.of_block (fun b hbb => k.block b (ho.lt b hbb).2 (.inr ((hY b).2 (.inr hbb)))), hn, hY⟩, k.below (by omega) h.below (by omega), hl⟩
/-- one part more. -/
theorem AI.next {w : World} {T : Nat} {g0 gs : List (Int × Int)} {d : Int} {i N : Nat} {Y : Nat → Prop} {W W2 w1 : World} {x : Int × Int} {v v' : Value} {o : Obj} (h : AI w T g0 gs d i Y W) (hx : gs[i]? = some x) (hb : W.heap[T]? = some (.cells #[v] 47 (0, 0)))
    (hN : N ≤ W.heap.size) (hTN : T < N) (hYN : ∀ k, Y k → k < N) (hW2 : Below N W W2)
    (ho : OwnG w1 w.heap.size v' (g0 ++ shiftG d (gs.take i) ++ [(x.1 + d, x.2)])) (hg : (W2.alloc o).grownBy w1 v.ownBlock) (hv : v'.ownBlock = v.ownBlock ∨ v'.ownBlock = some (W2.alloc o).heap.size) :
    ∃ Y', AI w T g0 gs d (i + 1) Y' (w1.setCell ⟨T, 0, none⟩ v') ∧ RoundN N Y Y' W (w1.setCell ⟨T, 0, none⟩ v') := by
  have hs := h.size
  have hlo := h.lo
  obtain ⟨v2, hb2, ho2, hn2, hY⟩ := h.box
  obtain rfl : v2 = v := by rw [hb2] at hb; simpa using hb
  have hlt := ho2.lt
  have hlt' := ho.lt
  have hsz := hg.size
  have hz2 := hW2.size
  rw [World.size_alloc] at hsz hv
  have hTv' : v'.ownBlock ≠ some T := fun e => by
    rcases hv with e2 | e2
    · exact hn2 (e2 ▸ e)
    · rw [e2] at e; simp only [Option.some.injEq] at e; omega
  have hbk : ∀ k, k < N → ¬ Y k → (w1.setCell ⟨T, 0, none⟩ v').heap[k]? = W.heap[k]? := fun k hk hn => by
    rw [Below.heap_setCell _ _ _ _ (fun e => hn ((hY k).2 (.inl e)))]
    rw [hg.block k (by rw [World.size_alloc]; omega) (fun e => hn ((hY k).2 (.inr e.symm)))]
    rw [Below.heap_alloc _ _ _ (by omega)]
    exact hW2.block k hk
  have hbox : w1.heap[T]? = some (.cells #[v2] 47 (0, 0)) := by
    rw [hg.block T (by rw [World.size_alloc]; omega) (fun e => hn2 e.symm), Below.heap_alloc _ _ _ (by omega), hW2.block T hTN]; exact hb2
  refine ⟨fun k => k = T ∨ v'.ownBlock = some k, ⟨⟨v', ?_, ?_, hTv', fun k => Iff.rfl⟩, ?_, hlo⟩, ⟨?_, ?_, ?_, ?_, hbk, ?_, ?_⟩⟩
  · simp [World.setCell, Array.getElem?_modify, hbox]
  · have e : g0 ++ shiftG d (gs.take (i + 1)) = g0 ++ shiftG d (gs.take i) ++ [(x.1 + d, x.2)] := by rw [List.take_add_one, hx]; simp [shiftG]
    rw [e]
    exact ho.of_block (fun b hbb => Below.heap_setCell _ _ _ _ (fun e => hTv' (by rw [← show b = T from e]; exact hbb)))
  · exact h.below.trans ⟨hg.os.trans hW2.os, hg.tape.trans hW2.tape, hg.output.trans hW2.output, by simp [World.setCell]; omega, fun k hk => by
      by_cases hy : Y k
      · rcases (hY k).1 hy with e | e
        · omega
        · have := (hlt k e).1; omega
      · exact hbk k (by omega) hy⟩
  · exact hg.os.trans hW2.os
  · exact hg.tape.trans hW2.tape
  · exact hg.output.trans hW2.output
  · simp [World.setCell]; omega
  · intro k hk
    rcases hk with rfl | e
    · exact .inl ((hY _).2 (.inl rfl))
    · rcases hv with e2 | e2
      · exact .inl ((hY _).2 (.inr (e2 ▸ e)))
      · rw [e2] at e; simp only [Option.some.injEq] at e; right; omega
  · intro k hk
    rcases hk with rfl | e
    · simp [World.setCell]; omega
    · have := (hlt' k e).2; simpa [World.setCell] using this

theorem OwnG.formN' {w : World} {base : Nat} {v : Value} {gs : List (Int × Int)} (h : OwnG w base v gs) {n : Nat} (hn : gs.length = n) : ∃ A cap, v = .slice A n cap ∧ n ≤ cap ∧ cap ≤ 9223372036854775807 ∧ GD w w.heap.size A gs := by
  subst hn
  obtain ⟨A, cap, h1, h2, h3, h4, _⟩ := h.form
  exact ⟨A, cap, h1, h2, h3, h4⟩
theorem cells2_set (W : World) (p : Nat) (u a b : Value) (t : TypeId) : (((W.setCell ⟨p, 0, none⟩ u).alloc (.cells #[a, b] t)).cell? ⟨W.heap.size, 0, none⟩ = some a) ∧ (((W.setCell ⟨p, 0, none⟩ u).alloc (.cells #[a, b] t)).cell? ⟨W.heap.size, 1, none⟩ = some b) := by
  have h := cells_new2 (W.setCell ⟨p, 0, none⟩ u) a b t
  rwa [World.size_setCell] at h
theorem group_bd {xs : List Int} {i : Nat} {x : Int × Int} (h : (groupsZ xs)[i]? = some x) (h9 : xs.length ≤ 9) : 0 ≤ x.1 ∧ x.1 ≤ 9 ∧ 0 ≤ x.2 ∧ x.2 ≤ 2 := by
  obtain ⟨j, hj, h⟩ := group_at h
  rcases h with ⟨rfl, _⟩ | ⟨rfl, _⟩ <;> (simp only; omega)

theorem EqualG_is {gs bs : List (Int × Int)} {r : Bool} {n m : Nat} (hr : sameE gs bs = r) (hn : gs.length = n) (hm' : bs.length = m) (A : Option Addr) (c : Nat) (A2 : Option Addr) (c2 : Nat) (hc : n ≤ c) (hm : c ≤ 9223372036854775807) (hc2 : m ≤ c2) (hm2 : c2 ≤ 9223372036854775807)
    (w : World) {B B2 : Nat} (h : GD w B A gs) (h2 : GD w B2 A2 bs) :
    Calls Try.prog 109 #[.slice A n c, .slice A2 m c2] w fun e w' => e = .returned (.bool r) ∧ ∃ k, w' = w.drewN k := by
  subst hn; subst hm'; subst hr; exact EqualG_any gs bs A c A2 c2 hc hm hc2 hm2 w h h2

set_option maxHeartbeats 4000000 in
set_option maxRecDepth 100000 in
theorem areParts_is {xs ys zs : List Int} {r : Bool} (hr : agreeB xs ys zs = r) (hPa : OkP 9 100000 xs) (hPb : OkP 9 100000 ys) (hPc : OkP 9 100000 zs) {n1 n2 n3 : Nat} (hn1 : xs.length = n1) (hn2 : ys.length = n2) (hn3 : zs.length = n3)
    (A1 : Option Addr) (c1 : Nat) (A2 : Option Addr) (c2 : Nat) (A3 : Option Addr) (c3 : Nat) (hc1 : n1 ≤ c1) (hm1 : c1 ≤ 9223372036854775807) (hc2 : n2 ≤ c2) (hm2 : c2 ≤ 9223372036854775807) (hc3 : n3 ≤ c3) (hm3 : c3 ≤ 9223372036854775807)
    (w : World) (h1 : RD w w.heap.size A1 (ints xs)) (h2 : RD w w.heap.size A2 (ints ys)) (h3 : RD w w.heap.size A3 (ints zs)) :
    Calls Try.prog 91 #[.slice A1 n1 c1, .slice A2 n2 c2, .slice A3 n3 c3] w fun e w' => e = .returned (.bool r) ∧ Below w.heap.size w w' := by
  subst hn1; subst hn2; subst hn3
  obtain ⟨w1, hw1⟩ : ∃ W, w.alloc (.cells #[.slice A1 xs.length c1] 22) = W := ⟨_, rfl⟩
  have z1 : w1.heap.size = w.heap.size + 1 := by rw [← hw1]; simp
  have b1 : Below w.heap.size w w1 := by rw [← hw1]; repeat' (first | (with_reducible exact Below.refl _ _) | (with_reducible assumption) | (refine below_step (by assumption) ?_ ?_) | (with_reducible refine below_drewN ?_ _) | (with_reducible refine Below.drew ?_) | (with_reducible refine Below.alloc ?_ ?_ _) | (with_reducible refine Below.setCell ?_ ?_ _) | go_size)
  have CA : Hid (Calls Try.prog 72 #[.func (.func 108) #[] #[.pointer (some ⟨w.heap.size + 1, 0, none⟩)]] ((w.alloc (.cells #[.slice A1 xs.length c1] 22)).alloc (.cells #[.slice A1 xs.length c1] 22)) fun e w' => ∃ v, e = .returned v ∧ OwnG w' w1.heap.size v (groupsZ xs) ∧ Below w1.heap.size w1 w') := Lib.hid (by
    have := collected hPa hc1 hm1 (w := w1) ((h1.keep b1 (Nat.le_refl _)).more b1.size)
    rw [z1] at this
    rw [hw1, z1]; exact this)
  have D0 : Hid (w1.cell? ⟨w.heap.size, 0, none⟩ = some (.slice A1 xs.length c1)) := Lib.hid (by rw [← hw1]; exact cell_new1 w _ _)
  have Z1 := Lib.hid z1
  have B1 := Lib.hid b1
  clear hw1 z1 b1
  have CC : Hid (∀ W, Below w.heap.size w W → Calls Try.prog 72 #[.func (.func 108) #[] #[.pointer (some ⟨W.heap.size, 0, none⟩)]] (W.alloc (.cells #[.slice A3 zs.length c3] 22)) fun e w' => ∃ v, e = .returned v ∧ OwnG w' W.heap.size v (groupsZ zs) ∧ Below W.heap.size W w') := Lib.hid (fun W hb => collected hPc hc3 hm3 ((h3.keep hb (Nat.le_refl _)).more hb.size))
  have hb2 := hPb.two
  have hb9 : ys.length ≤ 9 := by have := hPb.many; omega
  have ha2 := hPa.two
  have ha9 : xs.length ≤ 9 := by have := hPa.many; omega
  have hg1 : (groupsZ xs).length ≤ 9 := by have := groups_length xs; omega
  have hg2 : (groupsZ ys).length ≤ 9 := by have := groups_length ys; omega
  obtain ⟨b, off, rfl, hb, hcell⟩ := h2.ints (by omega)
  have HC := Lib.hid hcell
  have HR := Lib.hid hr
  obtain ⟨m1, hm1'⟩ : ∃ m, (groupsZ xs).length = m := ⟨_, rfl⟩
  have HM1 := Lib.hid hm1'
  rw [hm1'] at hg1
  clear hcell h1 h2 h3 hr hm1'
  refine (callsIn_wide (n := 9)).1 ?_
  refine callsIn_of_wp_marks Try.func91 rfl trivial ?_ rfl
  simp only [Try.ntmps91, List.size_toArray, List.length_cons, List.length_nil, Nat.reduceAdd, Nat.reduceSub, Array.replicate_succ, Array.replicate_zero, List.push_toArray, List.append_toArray, List.nil_append, List.cons_append]
  gi_wp2_with (first | ((first | refine ⟨trivial, fun h => wide_depth h, ?_⟩ | refine ⟨trivial, ?_⟩); gi_at_call 73; (with_reducible refine (callsIn_wide.2 (groups_any _ _ _ _)).mono ?_); rintro e w' ⟨rfl, rfl⟩) | (((first | refine ⟨trivial, fun h => wide_depth h, ?_⟩ | refine ⟨trivial, ?_⟩); gi_at_call 72; (with_reducible refine (callsIn_wide.2 (CA.out)).mono ?_); rintro e V1 ⟨v1, rfl, ho1, hb1⟩); obtain ⟨A9, k9, rfl, hk9, hkm9, _⟩ := ho1.formN' HM1.out; have HO1 := Lib.hid ho1; have HB1 := Lib.hid hb1; clear ho1 hb1))
  have hz1 : w.heap.size < V1.heap.size := by have := HB1.out.size; have := Z1.out; omega
  have HLT := Lib.hid HO1.out.lt
  refine rangeZ (F := Fence.wide) (encs := encG) (ys := groupsZ ys) (H := HG (V1.heap.size + 1) ys (some ⟨b, off, none⟩) c2) rfl (by omega) (gf := 108) (lb := #[.pointer (some ⟨V1.heap.size + 1, 0, none⟩)]) rfl trivial (enters_of Try.func108 (by kernel_rfl) rfl)
    (groups1_yields _ (V1.heap.size + 1) ys _ c2 hPb hc2 hm2) (fun _ => rfl)
    (AI w1 V1.heap.size (groupsZ xs) (groupsZ ys) ((xs.length : Int) - 1)) (fun _ _ _ _ => False) (fun k => k = V1.heap.size ∨ (Value.slice A9 m1 k9).ownBlock = some k) (fun k hk => by
      rcases hk with rfl | e
      · simp only [World.size_alloc]; omega
      · have := (HLT.out k e).2; simp; omega)
    (fun i Y A B h k => h.keep k (by simp only [World.size_alloc]; omega)) (fun _ _ _ _ _ h _ => h)
    ?start ?hH
    (fun N x a' W => ∃ p, a' = { tmps := #[.slice A1 xs.length c1, .slice (some ⟨b, off, none⟩) ys.length c2, .slice A3 zs.length c3, .pointer (some ⟨w.heap.size, 0, none⟩), undef, undef, .bool false, .pointer (some ⟨V1.heap.size, 0, none⟩), .pointer (some ⟨p, 0, none⟩), .slice A1 xs.length c1, .func (.func 108) #[] #[.pointer (some ⟨w.heap.size + 1, 0, none⟩)], .slice A9 m1 k9, .slice (some ⟨b, off, none⟩) ys.length c2, .func (.func 108) #[] #[.pointer (some ⟨V1.heap.size + 1, 0, none⟩)], .agg #[.int .i64 x.1, .int .i64 x.2], undef, undef, undef, undef, undef, undef, undef, undef, undef, undef, undef, undef, undef, undef, undef, undef], defers := [] } ∧ N ≤ p ∧ p < W.heap.size ∧ W.heap[p]? = some (.cells #[.int .i64 x.1, .int .i64 x.2] 57 (0, 0)))
    ?hAx ?assign ?body ?done (fun _ _ _ _ h => h.elim)
  case start =>
    have h0 : (((V1.alloc (.cells #[.slice A9 m1 k9] 47)).alloc (.cells #[.slice (some ⟨b, off, none⟩) ys.length c2] 22)).heap[V1.heap.size]?) = some (.cells #[.slice A9 m1 k9] 47 (0, 0)) := by
      rw [Below.heap_alloc _ _ _ (by simp only [World.size_alloc]; omega)]; exact heap_alloc_new V1 _
    refine ⟨⟨_, h0, ?_, fun e => by have := (HLT.out _ e).2; omega, fun k => Iff.rfl⟩, below_step (by repeat' (first | (with_reducible exact Below.refl _ _) | (with_reducible assumption) | (refine below_step (by assumption) ?_ ?_) | (with_reducible refine below_drewN ?_ _) | (with_reducible refine Below.drew ?_) | (with_reducible refine Below.alloc ?_ ?_ _) | (with_reducible refine Below.setCell ?_ ?_ _) | go_size)) HB1.out HB1.out.size, HB1.out.size⟩
    have e : groupsZ xs ++ shiftG ((xs.length : Int) - 1) ((groupsZ ys).take 0) = groupsZ xs := by simp [shiftG]
    rw [e]
    exact HO1.out.kept (by repeat' (first | (with_reducible exact Below.refl _ _) | (with_reducible assumption) | (refine below_step (by assumption) ?_ ?_) | (with_reducible refine below_drewN ?_ _) | (with_reducible refine Below.drew ?_) | (with_reducible refine Below.alloc ?_ ?_ _) | (with_reducible refine Below.setCell ?_ ?_ _) | go_size) : Below V1.heap.size V1 _) (Nat.le_refl _)
  case hH =>
    intro W Z hB hZ
    have hs := hB.size
    simp only [World.size_alloc] at hs
    have hzk : ∀ k, Z k → w1.heap.size ≤ k ∧ k ≠ V1.heap.size + 1 := fun k hk => by
      have := HB1.out.size
      rcases hZ k hk with (h | h) | h
      · omega
      · have := HLT.out k h; omega
      · simp only [World.size_alloc] at h; omega
    have hB' : Below V1.heap.size V1 W := below_step hB (by repeat' (first | (with_reducible exact Below.refl _ _) | (with_reducible assumption) | (refine below_step (by assumption) ?_ ?_) | (with_reducible refine below_drewN ?_ _) | (with_reducible refine Below.drew ?_) | (with_reducible refine Below.alloc ?_ ?_ _) | (with_reducible refine Below.setCell ?_ ?_ _) | go_size)) (by simp only [World.size_alloc]; omega)
    have hBw : Below w.heap.size w W := below_step (below_step hB' HB1.out HB1.out.size) B1.out B1.out.size
    have hq : W.cell? ⟨V1.heap.size + 1, 0, none⟩ = some (.slice (some ⟨b, off, none⟩) ys.length c2) := cell_later hB (by have := cell_new1 (V1.alloc (.cells #[.slice A9 m1 k9] 47)) (.slice (some ⟨b, off, none⟩) ys.length c2) 22; rwa [World.size_alloc] at this)
    have hz := Z1.out
    exact ⟨hq, by omega, fun h => (hzk _ h).2 rfl, b, off, rfl, by omega, fun h => by have := (hzk _ h).1; omega, fun j hj => cell_later hBw (HC.out j hj)⟩
  case hAx =>
    rintro N x a' A B ⟨p, rfl, h1, h2, h3⟩ hk
    have := hk p h2 ⟨_, _, _, h3⟩
    exact ⟨p, rfl, h1, (Array.getElem?_eq_some_iff.1 (this.trans h3)).1, this.trans h3⟩
  case assign =>
    intro l i x Y W K hx hI hlt hK
    have HK := Lib.hid hK
    have HI := Lib.hid hI
    clear hK hI hlt
    simp only [encG]
    gi_wp2
    exact HK.out _ _ (by go_grown) ⟨_, rfl, Nat.le_refl _, by simp, heap_alloc_new W _⟩
  case body =>
    rintro l i N x a' Y W hl hlN hNW ⟨r', hr'⟩ hx hI hlt ⟨p, rfl, hp1, hpl, hp⟩
    have p0 : W.cell? ⟨p, 0, none⟩ = some (.int .i64 x.1) := by rw [cell_of_row W p 0 _ _ _ hp]; rfl
    have p1 : W.cell? ⟨p, 1, none⟩ = some (.int .i64 x.2) := by rw [cell_of_row W p 1 _ _ _ hp]; rfl
    have pf : W.frozen? ⟨p, 0, none⟩ = false := by simp [World.frozen?, hp]
    obtain ⟨x0, x9, _, _⟩ := group_bd hx hb9
    have hsz := hI.size
    have hlo := hI.lo
    obtain ⟨v, hbx, hown, hvT, hY⟩ := hI.box
    have hTN : V1.heap.size < N := hlt _ ((hY _).2 (.inl rfl))
    have t0 : W.cell? ⟨V1.heap.size, 0, none⟩ = some v := by rw [cell_of_row W _ 0 _ _ _ hbx]; rfl
    have d0 : W.cell? ⟨w.heap.size, 0, none⟩ = some (.slice A1 xs.length c1) := cell_later hI.below D0.out
    have hown2 := hown.lt
    have hlen : (groupsZ xs ++ shiftG ((xs.length : Int) - 1) ((groupsZ ys).take i)).length ≤ 1000000 := by
      rw [List.length_append, HM1.out]; simp only [shiftG, List.length_map, List.length_take]; omega
    have HW : Hid (∀ u, OwnG (W.setCell ⟨p, 0, none⟩ u) w1.heap.size v (groupsZ xs ++ shiftG ((xs.length : Int) - 1) ((groupsZ ys).take i))) := Lib.hid (fun u => hown.of_block (fun k hk => Below.heap_setCell _ _ _ _ (fun e => by have := hlt k ((hY k).2 (.inr hk)); simp only at e; omega)))
    have HS : Hid (∀ u, Below N W (W.setCell ⟨p, 0, none⟩ u)) := Lib.hid (fun u => (show Below N W W from ⟨rfl, rfl, rfl, Nat.le_refl _, fun _ _ => rfl⟩).setCell hp1 u)
    have HI := Lib.hid hI
    have HO := Lib.hid hown
    have HX := Lib.hid hx
    have HBX := Lib.hid hbx
    have HLT2 := Lib.hid hown2
    have HYN := Lib.hid hlt
    have pneT : p ≠ V1.heap.size := by omega
    have pneT' : V1.heap.size ≠ p := by omega
    clear hI hown hx hlt hr' hl hY hp hbx hown2
    gi_wp2_with (gi_at_builtin; refine wpListIn_appG rfl _ _ rfl w1.heap.size v _ rfl ((HW.out _).kept (Below.alloc (Below.refl _ _) (Nat.le_refl _) _) (Nat.le_refl _)) W.heap.size 1 (x.1 + ((xs.length : Int) - 1)) x.2 rfl (cells2_set W p _ _ _ _).1 (cells2_set W p _ _ _ _).2 hlen (by simp only [World.size_alloc, World.size_setCell]; omega) ?_; intro v' w2 hown' hgrow hob; obtain ⟨A4, c4, hv4, _⟩ := hown'.form; have hnx := Lib.hid (HI.out.next HX.out HBX.out hNW hTN HYN.out (HS.out _) hown' hgrow hob); obtain ⟨n4, hn4⟩ : ∃ n4, (groupsZ xs ++ shiftG ((xs.length : Int) - 1) ((groupsZ ys).take i) ++ [(x.1 + ((xs.length : Int) - 1), x.2)]).length = n4 := ⟨_, rfl⟩; rw [hn4] at hv4; subst hv4; have hbx1 := (hgrow.block V1.heap.size (by simp only [World.size_alloc, World.size_setCell]; omega) (fun e => hvT e.symm)).trans ((Below.heap_alloc _ _ _ (by simp only [World.size_setCell]; omega)).trans ((Below.heap_setCell W ⟨p, 0, none⟩ _ _ pneT').trans HBX.out)); have k1 : w2.cell? ⟨V1.heap.size, 0, none⟩ = some v := (by rw [cell_of_row w2 _ 0 _ _ _ hbx1]; rfl); have k2 : w2.frozen? ⟨V1.heap.size, 0, none⟩ = false := (by simp [World.frozen?, hbx1]); clear hbx1 hown' hgrow hob hn4)
    exact hnx.out
  case done =>
    intro Y W hI hD
    have hsz := hI.size
    obtain ⟨v, hbx, hown, hvT, hY⟩ := hI.box
    have hBw := below_step hI.below B1.out B1.out.size
    rw [List.take_length] at hown
    obtain ⟨m2, hm2'⟩ : ∃ m, (groupsZ xs ++ shiftG ((xs.length : Int) - 1) (groupsZ ys)).length = m := ⟨_, rfl⟩
    obtain ⟨A4, c4, rfl, hc4, hm4, hgd⟩ := hown.formN' hm2'
    have t0 : W.cell? ⟨V1.heap.size, 0, none⟩ = some (.slice A4 m2 c4) := by rw [cell_of_row W _ 0 _ _ _ hbx]; rfl
    have HD := Lib.hid hD
    have HG := Lib.hid hgd
    have HBW := Lib.hid hBw
    have HM2 := Lib.hid hm2'
    clear hI hD hown hbx hgd hBw hm2' hY
    gi_wp2
    refine wpIn_wide.2 ?_
    obtain ⟨m3, hm3'⟩ : ∃ m, (groupsZ zs).length = m := ⟨_, rfl⟩
    have HM3 := Lib.hid hm3'
    clear hm3'
    have CC' : Hid (Calls Try.prog 72 #[.func (.func 108) #[] #[.pointer (some ⟨W.heap.size, 0, none⟩)]] (W.alloc (.cells #[.slice A3 zs.length c3] 22)).drew fun e w' => ∃ v, e = .returned v ∧ OwnG w' W.heap.size v (groupsZ zs) ∧ Below W.heap.size W w') := Lib.hid ((CC.out W.drew (by repeat' (first | (with_reducible exact Below.refl _ _) | (with_reducible assumption) | (refine below_step (by assumption) ?_ ?_) | (with_reducible refine below_drewN ?_ _) | (with_reducible refine Below.drew ?_) | (with_reducible refine Below.alloc ?_ ?_ _) | (with_reducible refine Below.setCell ?_ ?_ _) | go_size))).mono (fun e w' ⟨v, h1, h2, h3⟩ => ⟨v, h1, h2, ⟨h3.os, h3.tape, h3.output, h3.size, h3.block⟩⟩))
    have HEQ : Hid (∀ (V2 : World) A5 c5, Below W.heap.size W V2 → m3 ≤ c5 → c5 ≤ 9223372036854775807 → GD V2 V2.heap.size A5 (groupsZ zs) → Calls Try.prog 109 #[.slice A4 m2 c4, .slice A5 m3 c5] V2 fun e w' => e = .returned (.bool r) ∧ ∃ k, w' = V2.drewN k) := Lib.hid (fun V2 A5 c5 hb h1 h2 h3 => EqualG_is HR.out HM2.out HM3.out A4 c4 A5 c5 hc4 hm4 h1 h2 V2 (RD.keep HG.out hb (Nat.le_refl _)) h3)
    go_region_held3 (fun w' => w'.cell? ⟨V1.heap.size, 0, none⟩ = some (.slice A4 m2 c4)) (exact cell_later (by repeat' (first | (with_reducible exact Below.refl _ _) | (with_reducible assumption) | (refine below_step (by assumption) ?_ ?_) | (with_reducible refine below_drewN ?_ _) | (with_reducible refine Below.drew ?_) | (with_reducible refine Below.alloc ?_ ?_ _) | (with_reducible refine Below.setCell ?_ ?_ _) | go_size)) t0) (first | (go_at_call 73; (with_reducible refine (groups_any _ _ _ _).mono ?_); rintro e w' ⟨rfl, rfl⟩) | (go_at_call 72; (with_reducible refine CC'.out.mono ?_); rintro e V2 ⟨v2, rfl, ho2, hb2'⟩; obtain ⟨A5, c5, rfl, hc5, hm5, hgd5⟩ := ho2.formN' HM3.out) | (go_at_call 109; (with_reducible refine (HEQ.out _ _ _ hb2' hc5 hm5 hgd5).mono ?_); rintro e w' ⟨rfl, k5, rfl⟩))
    have HBV := Lib.hid hb2'
    clear hb2' hgd5 ho2 t0
    gi_wp2
    have hz2 := HBV.out.size
    have HD' : (V2.drewN k5).heap[((V1.alloc (.cells #[.slice A9 m1 k9] 47)).alloc (.cells #[.slice (some ⟨b, off, none⟩) ys.length c2] 22)).heap.size]? = some (.deferred (some [])) := (HBV.out.block _ (Array.getElem?_eq_some_iff.1 HD.out).1).trans HD.out
    rw [World.size_alloc, World.size_alloc] at HD'
    refine ⟨by simp, .inl ⟨_, _, rfl, run_takeDeferred HD', ?_⟩⟩
    refine ⟨_, results_tmp rfl _ _ _, rfl, ?_⟩
    exact ((Keep.refl (w.heap.size + 1) (fun _ => False) (V2.drewN k5)).putObj (by have := hz1; omega) (fun h => h) (.deferred none)).below (by omega) (below_drewN (below_step HBV.out HBW.out HBW.out.size) _) (by have := HBW.out.size; have := hz2; simp only [hsz_drewN]; omega)

end Go.Proofs.Ytdlmdaononclgaa
