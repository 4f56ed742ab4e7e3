import Derived.Test.YtdlmdaononclgaaDoorMC
import Derived.Laws.EntriesVeiled
/- The weights of positions. -/
namespace Go.Proofs.YtdlmdaononclgaaDoor
open Go.RowKit
set_option linter.unusedVariables false
set_option linter.unusedSimpArgs false
attribute [local go_sem] Oper.semAt_some

theorem Below.of_only {B g : Nat} {a w w' : World} (h : Below B a w) (ho : Only g w w') (hg : B ≤ g) : Below B a w' :=
  h.trans ⟨ho.os, ho.tape, ho.output, by rw [ho.size]; exact Nat.le_refl _, fun k hk => ho.block k (by omega)⟩
theorem cell_da {W : World} {a : Addr} {v : Value} (h : W.cell? a = some v) : ∀ (k : Nat) (o : Obj), ((W.drewN k).alloc o).cell? a = some v := fun k o => cell_later (w := W) (by repeat' (first | (with_reducible exact Below.refl _ _) | (with_reducible assumption) | (refine below_step (by assumption) ?_ ?_) | (with_reducible refine below_drewN ?_ _) | (with_reducible refine Below.drew ?_) | (with_reducible refine Below.alloc ?_ ?_ _) | (with_reducible refine Below.setCell ?_ ?_ _) | go_size)) h

/-- what holds between two rounds of weights. -/
structure WI (w : World) (xs : List Int) (A : Option Addr) (c : Nat) (i : Nat) (Y : Nat → Prop) (W : World) : Prop where
  Y1 : ∀ k, Y k → k = w.heap.size + 1
  Y0 : Y (w.heap.size + 1)
  size : w.heap.size + 5 ≤ W.heap.size
  below : Below w.heap.size w W
  box : W.cell? ⟨w.heap.size, 0, none⟩ = some (.slice A xs.length c)
  sum : W.cell? ⟨w.heap.size + 1 + 1, 0, none⟩ = some (.slice (some ⟨w.heap.size + 1, 0, none⟩) xs.length xs.length)
  take : W.cell? ⟨w.heap.size + 1 + 1 + 1, 0, none⟩ = some (.func (.func 57) #[.pointer (some ⟨w.heap.size + 1 + 1, 0, none⟩)] #[])
  arr : Arr W (w.heap.size + 1) (wtAcc xs i)
theorem WI.keep {w : World} {xs : List Int} {A : Option Addr} {c i D : Nat} {Y : Nat → Prop} {W W' : World} (h : WI w xs A c i Y W) (k : Keep D Y W W') (hD : w.heap.size + 5 ≤ D) : WI w xs A c i Y W' := by
  have hs := h.size
  exact ⟨h.Y1, h.Y0, by have := k.size; omega, k.below (by omega) h.below (by omega), (k.cell (by show w.heap.size < _; omega) (.inl (by show w.heap.size < _; omega))).trans h.box,
    (k.cell (by show w.heap.size + 1 + 1 < _; omega) (.inl (by show w.heap.size + 1 + 1 < _; omega))).trans h.sum,
    (k.cell (by show w.heap.size + 1 + 1 + 1 < _; omega) (.inl (by show w.heap.size + 1 + 1 + 1 < _; omega))).trans h.take,
    h.arr.of_block (k.block _ (by omega) (.inl (by omega)))⟩

/-- a call of add in a round: what holds behind it. -/
theorem WI.add {w : World} {xs : List Int} {A0 : Option Addr} {c i : Nat} {Y : Nat → Prop} {W W2 : World} (h : WI w xs A0 c i Y W) (hb : Below W.heap.size W W2) (ws : List Int) {fr m : Nat} (hm : ws.length = m)
    {A : Option Addr} {c' B : Nat} (hA : ∀ b off, A = some ⟨b, off, none⟩ → W.heap.size ≤ b) (hw : RD W2 B A (ints ws)) (hl : fr + m ≤ xs.length) (hcl : xs.length ≤ 9)
    (hcb : ∀ j, -1000000000 ≤ ix (wtAcc xs i) j ∧ ix (wtAcc xs i) j ≤ 1000000000) (hwb : ∀ j, -1000000000 ≤ ix ws j ∧ ix ws j ≤ 1000000000) (hnext : wtAcc xs (i + 1) = addK (wtAcc xs i) fr ws m) :
    Calls Tryd.prog 57 #[.pointer (some ⟨w.heap.size + 1 + 1, 0, none⟩), .int .i64 fr, .slice A m c'] W2 fun e W' => e = .returned (.tuple #[]) ∧ WI w xs A0 c (i + 1) Y W' ∧ Round Y Y W W' := by
  have hs := h.size
  have hz := hb.size
  refine (add_at ws hm ((hb.cell (p := ⟨w.heap.size + 1 + 1, 0, none⟩) (by show w.heap.size + 1 + 1 < _; omega)).trans h.sum) (cur := wtAcc xs i) (wtAcc_length xs i).symm (by omega) (fun b off e => by have := hA b off e; omega)
    (h.arr.of_block (hb.block _ (by omega))) hw (by rw [hm, wtAcc_length]; exact hl) (by rw [wtAcc_length]; exact hcl) hcb hwb).mono ?_
  rintro e W' ⟨rfl, ha, ho⟩
  have cellk : ∀ k, k < w.heap.size + 5 → k ≠ w.heap.size + 1 → W'.cell? ⟨k, 0, none⟩ = W.cell? ⟨k, 0, none⟩ := fun k hk hne =>
    (ho.cell (p := ⟨k, 0, none⟩) hne).trans (hb.cell (p := ⟨k, 0, none⟩) (by show k < _; omega))
  refine ⟨rfl, ⟨h.Y1, h.Y0, by rw [ho.size]; omega, ?_, (cellk _ (by omega) (by omega)).trans h.box, (cellk _ (by omega) (by omega)).trans h.sum, (cellk _ (by omega) (by omega)).trans h.take, by rw [hnext]; exact ha⟩, ?_⟩
  · refine h.below.trans ⟨ho.os.trans hb.os, ho.tape.trans hb.tape, ho.output.trans hb.output, by rw [ho.size]; exact hz, fun k hk => (ho.block k (by omega)).trans (hb.block k (by omega))⟩
  · exact ⟨ho.os.trans hb.os, ho.tape.trans hb.tape, ho.output.trans hb.output, by rw [ho.size]; exact hz, fun k hk hy => (ho.block k (fun e => hy (by rw [e]; exact h.Y0))).trans (hb.block k hk), fun k hk => .inl hk, fun k hk => by rw [ho.size, h.Y1 k hk]; omega⟩

/-- what weights hands back: a list of its own. -/
def RetInts (ys : List Int) (w : World) (e : Ending) (w' : World) : Prop :=
  ∃ g, e = .returned (.slice (some ⟨g, 0, none⟩) ys.length ys.length) ∧ w.heap.size ≤ g ∧ Arr w' g ys ∧ Below w.heap.size w w'

set_option maxHeartbeats 2000000 in
set_option maxRecDepth 100000 in
theorem weights_any (xs : List Int) (A : Option Addr) (c : Nat) (hP : OkP 9 100000 xs) (hc : xs.length ≤ c) (hm : c ≤ 9223372036854775807) (w : World) (h : RD w w.heap.size A (ints xs)) :
    Calls Tryd.prog 36 #[.slice A xs.length c] w (RetInts (weightsZ xs) w) := by
  have hmf : ∀ (fn : Fn) (first cap : Array Value) (w : World), (Instr.makeFunc fn first cap).run Tryd.prog w = .ok (.func fn first cap) w := fun _ _ _ _ => rfl
  have hlen : xs.length ≤ 9 := by have := hP.many; omega
  have hl2 := hP.two
  obtain ⟨b, off, rfl, hb, hcell⟩ := h.ints (by omega)
  have HC := Lib.hid hcell
  clear hcell h
  have hmk := make_ints xs.length (by omega)
  refine (callsIn_wide (n := 9)).1 ?_
  refine callsIn_of_wp_marks Tryd.func36 rfl trivial ?_ rfl
  simp only [Tryd.ntmps36, List.size_toArray, List.length_cons, List.length_nil, Nat.reduceAdd, Nat.reduceSub, Array.replicate_succ, Array.replicate_zero, List.push_toArray, List.append_toArray, List.nil_append, List.cons_append]
  gi_wp2_with (first | ((first | refine ⟨trivial, fun h => wide_depth h, ?_⟩ | refine ⟨trivial, ?_⟩); gi_at_call 58; (with_reducible refine (callsIn_wide.2 (groups_any _ _ _ _)).mono ?_); rintro e w' ⟨rfl, rfl⟩))
  refine rangeY (F := Fence.wide) (encs := encG) (ys := groupsZ xs) (H := HG (w.heap.size + 1 + 1 + 1 + 1) xs (some ⟨b, off, none⟩) c) rfl (by omega) (gf := 70) (lb := #[.pointer (some ⟨w.heap.size + 1 + 1 + 1 + 1, 0, none⟩)]) rfl trivial (enters_of Tryd.func70 (by kernel_rfl) rfl)
    (groups1_yields _ (w.heap.size + 1 + 1 + 1 + 1) xs _ c hP hc hm) (fun _ => rfl)
    (WI w xs (some ⟨b, off, none⟩) c) (fun _ _ _ _ => False) (fun k => k = w.heap.size + 1) (fun k hk => by subst hk; simp)
    (fun i Y A B h k => h.keep k (by simp)) (fun _ _ _ _ _ h _ => h)
    ?start ?hH
    (fun x a' W => ∃ p, a' = { tmps := #[.slice (some ⟨b, off, none⟩) xs.length c, .pointer (some ⟨w.heap.size, 0, none⟩), .slice none 0 0, .pointer (some ⟨w.heap.size + 1 + 1, 0, none⟩), .pointer (some ⟨w.heap.size + 1 + 1 + 1, 0, none⟩), .pointer (some ⟨p, 0, none⟩), undef, undef, undef, undef, undef, .slice (some ⟨b, off, none⟩) xs.length c, .int .i64 xs.length, .slice (some ⟨w.heap.size + 1, 0, none⟩) xs.length xs.length, .agg #[.slice (some ⟨w.heap.size + 1, 0, none⟩) xs.length xs.length], .func (.func 57) #[.pointer (some ⟨w.heap.size + 1 + 1, 0, none⟩)] #[], .slice (some ⟨b, off, none⟩) xs.length c, .func (.func 70) #[] #[.pointer (some ⟨w.heap.size + 1 + 1 + 1 + 1, 0, none⟩)], .agg #[.int .i64 x.1, .int .i64 x.2], undef, undef, undef, undef, undef, undef, undef, undef, undef, undef, undef, undef, undef, undef, undef, undef, undef, undef, undef, undef, undef, undef, undef, undef, undef, undef, undef, undef, undef, undef, undef, undef, undef, undef, undef, undef, undef, undef, undef, undef, undef, undef, undef, undef, undef, undef, undef, undef, undef, undef, undef, undef, undef, undef, undef, undef, undef, undef, undef, undef, undef, undef, undef, undef, undef, undef, undef, undef, undef, undef, undef, undef, undef, undef, undef, undef, undef, undef, undef, undef, undef, undef, undef, undef], defers := [] } ∧ w.heap.size + 5 ≤ p ∧ p < W.heap.size ∧ W.heap[p]? = some (.cells #[.int .i64 x.1, .int .i64 x.2] 72 (0, 0)))
    ?hAx ?assign ?body ?done (fun _ _ _ _ h => h.elim)
  case start =>
    refine ⟨fun k hk => hk, rfl, by simp, by go_grown, by simp [go_sem], by simp [go_sem], by simp [go_sem], ?_⟩
    rw [wtAcc_zero]
    have h0 := Arr.zeros (w.alloc (.cells #[.slice (some ⟨b, off, none⟩) xs.length c] 22)) xs.length
    rw [World.size_alloc] at h0
    refine h0.of_block (Below.block (B := w.heap.size + 2) ?_ _ (by omega))
    go_grown
  case hH =>
    intro W Z hB hZ
    have hs := hB.size
    simp only [World.size_alloc] at hs
    refine ⟨?_, by omega, fun h => by rcases hZ _ h with h | h <;> (try simp at h) <;> omega, b, off, rfl, by omega, fun h => by rcases hZ _ h with h | h <;> (try simp at h) <;> omega, fun j hj => ?_⟩
    · rw [hB.cell (by simp)]; simp [go_sem]
    · rw [hB.cell (by simp; omega)]
      rw [← HC.out j hj]
      refine Below.cell (B := w.heap.size) (w := w) (p := ⟨b, off + j, none⟩) ?_ hb
      go_grown
  case hAx =>
    rintro x a' A B ⟨p, rfl, h1, h2, h3⟩ hk
    have := hk p h2 ⟨_, _, _, h3⟩
    exact ⟨p, rfl, h1, (Array.getElem?_eq_some_iff.1 (this.trans h3)).1, this.trans h3⟩
  case assign =>
    intro l i x Y W K hx hI hlt hK
    have hz := hI.size
    have HK := Lib.hid hK
    have HI := Lib.hid hI
    clear hK hI hlt
    simp only [encG]
    gi_wp2
    exact HK.out _ _ (by go_grown) ⟨_, rfl, hz, by simp, heap_alloc_new W _⟩
  case body =>
    rintro l i x a' Y W hl ⟨r, hr⟩ hx hI hlt ⟨p, rfl, hp5, hpl, hp⟩
    obtain ⟨j, hj, hcase⟩ := group_at hx
    have hil : i < (groupsZ xs).length := (List.getElem?_eq_some_iff.1 hx).1
    have hgl := groups_length xs
    have hbd := wtAcc_bd hP (by omega) i (by omega)
    have HBD := Lib.hid hbd
    have f0 := hP.lo j (by omega)
    have f1 := hP.dif j hj
    have g0 := hP.hi' j (by omega)
    have g1 := hP.hi' (j + 1) (by omega)
    obtain ⟨d1, hd1⟩ : ∃ d, dx xs j = d := ⟨_, rfl⟩
    have hd1' : ix xs (j + 1) - ix xs j = d1 := hd1
    rw [hd1'] at f1
    obtain ⟨f11, f12⟩ := f1
    have e1 : IntKind.i64.wrap (ix xs (j + 1) - ix xs j) = d1 := by rw [hd1']; exact IntWalk.i64_in _ ⟨by omega, by omega⟩
    have y0 := (hI.below.cell (p := ⟨b, off + j, none⟩) hb).trans (HC.out j (by omega))
    have y1 := (hI.below.cell (p := ⟨b, off + (j + 1), none⟩) hb).trans (HC.out (j + 1) (by omega))
    have z0 := hI.box
    have z1 := hI.take
    have z2 := hI.sum
    have hsz := hI.size
    have q3 : w.heap.size + 1 + 1 + 1 < W.heap.size := by omega
    have HX := Lib.hid hx
    have HI := Lib.hid hI
    have HL := Lib.hid hlt
    have HD1 := Lib.hid hd1
    clear hbd hx hlt hr hl hd1
    rcases hcase with ⟨rfl, hm1⟩ | ⟨rfl, hm2, hj2, hpair⟩
    · have p0 : W.cell? ⟨p, 0, none⟩ = some (.int .i64 j) := by rw [cell_of_row W p 0 _ _ _ hp]; rfl
      have p1 : W.cell? ⟨p, 1, none⟩ = some (.int .i64 1) := by rw [cell_of_row W p 1 _ _ _ hp]; rfl
      clear hm1 hp hI
      gi_wp2
      (refine region_quiet_round _ (by kernel_rfl) (by kernel_rfl) (by kernel_rfl) ?_; (repeat gi_big_quiet_step (fail)); refine wpQuietIn_nil ?_; intro _ hw'; obtain ⟨nq, hw''⟩ := hw'; subst hw'')
      gi_wp2_with fail
      refine ⟨trivial, ?_⟩
      refine (CallsIn.inRound l (callsIn_wide.2 (HI.out.add (by repeat' (first | (with_reducible exact Below.refl _ _) | (with_reducible assumption) | (refine below_step (by assumption) ?_ ?_) | (with_reducible refine below_drewN ?_ _) | (with_reducible refine Below.drew ?_) | (with_reducible refine Below.alloc ?_ ?_ _) | (with_reducible refine Below.setCell ?_ ?_ _) | go_size)) [18 * d1, 18 * d1] (m := 2) rfl ?a1 (Arr.built (W.drewN nq) [18 * d1, 18 * d1]).rd (by omega) hlen ?a3 ?a4 ?a5))).mono ?_
      case a1 => intro b' off' e; cases e; exact Nat.le_refl _
      case a3 => intro j; have := HBD.out j; omega
      case a4 => exact fun j => ix2_bd (by omega) (by omega) (by omega) j
      case a5 => rw [wtAcc_succ HX.out]; simp only [addG, if_true, Int.toNat_natCast, HD1.out]
      rintro e W3 ⟨rfl, hI', hR'⟩
      have HI' := Lib.hid hI'
      have HR' := Lib.hid hR'
      clear hI' hR'
      gi_wp2
      exact ⟨Y, HI'.out, HR'.out⟩
    · have p0 : W.cell? ⟨p, 0, none⟩ = some (.int .i64 j) := by rw [cell_of_row W p 0 _ _ _ hp]; rfl
      have p1 : W.cell? ⟨p, 1, none⟩ = some (.int .i64 2) := by rw [cell_of_row W p 1 _ _ _ hp]; rfl
      have f2 := hP.dif (j + 1) (by omega)
      have g2 := hP.hi' (j + 2) (by omega)
      rw [show j + 1 + 1 = j + 2 from rfl] at f2
      obtain ⟨d2, hd2⟩ : ∃ d, dx xs (j + 1) = d := ⟨_, rfl⟩
      have hd2' : ix xs (j + 2) - ix xs (j + 1) = d2 := hd2
      rw [hd2'] at f2
      obtain ⟨f21, f22⟩ := f2
      have e2 : IntKind.i64.wrap (ix xs (j + 2) - ix xs (j + 1)) = d2 := by rw [hd2']; exact IntWalk.i64_in _ ⟨by omega, by omega⟩
      have y2 := (hI.below.cell (p := ⟨b, off + (j + 2), none⟩) hb).trans (HC.out (j + 2) (by omega))
      have HD2 := Lib.hid hd2
      rw [HD1.out, hd2] at hpair
      have hbdw := grpW_bd f11 f21 f12 f22 hpair
      have HBW := Lib.hid hbdw
      clear hm2 hp hd2 hbdw hI
      rcases pair_cases f11 f21 hpair with ⟨e, r1, r2⟩ | ⟨e, r1, r2⟩ | ⟨e, r1, r2⟩ | ⟨e, r1, r2⟩ | ⟨e, r1, r2⟩
      · subst e
        have t1 := cell_da z1
        have t0 := cell_da p0
        have HR1 := Lib.hid r1
        have HR2 := Lib.hid r2
        clear r1 r2 hpair
        gi_wp2
        (refine region_quiet_round _ (by kernel_rfl) (by kernel_rfl) (by kernel_rfl) ?_; (repeat gi_big_quiet_step (fail)); refine wpQuietIn_nil ?_; intro _ hw'; obtain ⟨nq, hw''⟩ := hw'; subst hw'')
        gi_wp2
        (refine region_quiet_round _ (by kernel_rfl) (by kernel_rfl) (by kernel_rfl) ?_; (repeat gi_big_quiet_step (fail)); refine wpQuietIn_nil ?_; intro _ hw'; obtain ⟨nq, hw''⟩ := hw'; subst hw'')
        gi_wp2_with (first | ((first | refine ⟨trivial, fun h => wide_depth h, ?_⟩ | refine ⟨trivial, ?_⟩); gi_at_call 59; (with_reducible refine (CallsIn.inRound _ (callsIn_wide.2 (ratio_is HR1.out (by omega) (by omega) (by omega) (by omega) _))).mono ?_); rintro e w' ⟨rfl, rfl⟩) | ((first | refine ⟨trivial, fun h => wide_depth h, ?_⟩ | refine ⟨trivial, ?_⟩); gi_at_call 59; (with_reducible refine (CallsIn.inRound _ (callsIn_wide.2 (ratio_is HR2.out (by omega) (by omega) (by omega) (by omega) _))).mono ?_); rintro e w' ⟨rfl, rfl⟩))
        have hgw : grpW d1 d1 = [12 * d1, 12 * d1 * 2 * 2, 12 * d1] := by rw [grpW_1]; simp only [List.cons.injEq, and_true, true_and]; omega
        refine ⟨trivial, ?_⟩
        refine (CallsIn.inRound l (callsIn_wide.2 (HI.out.add (by repeat' (first | (with_reducible exact Below.refl _ _) | (with_reducible assumption) | (refine below_step (by assumption) ?_ ?_) | (with_reducible refine below_drewN ?_ _) | (with_reducible refine Below.drew ?_) | (with_reducible refine Below.alloc ?_ ?_ _) | (with_reducible refine Below.setCell ?_ ?_ _) | go_size)) (grpW d1 d1) (m := 3) (by rw [hgw]; rfl) ?a1 (by rw [hgw]; exact (Arr.built _ _).rd) (by omega) hlen ?a3 ?a4 ?a5))).mono ?_
        case a1 => intro b' off' e; cases e; exact Nat.le_refl _
        case a3 => intro j; have := HBD.out j; omega
        case a4 => intro j; have := HBW.out j; omega
        case a5 => rw [wtAcc_succ HX.out]; simp only [addG, Int.toNat_natCast, HD1.out, HD2.out]; rw [if_neg (by omega)]
        rintro e W4 ⟨rfl, hI', hR'⟩
        have HI' := Lib.hid hI'
        have HR' := Lib.hid hR'
        clear hI' hR' hgw
        gi_wp2
        exact ⟨Y, HI'.out, HR'.out⟩
      · subst e
        have t1 := cell_da z1
        have t0 := cell_da p0
        have hmin : min d1 (2 * d1) = d1 := by omega
        have HR1 := Lib.hid r1
        have HR2 := Lib.hid r2
        clear r1 r2 hpair
        gi_wp2
        (refine region_quiet_round _ (by kernel_rfl) (by kernel_rfl) (by kernel_rfl) ?_; (repeat gi_big_quiet_step (fail)); refine wpQuietIn_nil ?_; intro _ hw'; obtain ⟨nq, hw''⟩ := hw'; subst hw'')
        gi_wp2
        (refine region_quiet_round _ (by kernel_rfl) (by kernel_rfl) (by kernel_rfl) ?_; (repeat gi_big_quiet_step (fail)); refine wpQuietIn_nil ?_; intro _ hw'; obtain ⟨nq, hw''⟩ := hw'; subst hw'')
        gi_wp2_with (first | ((first | refine ⟨trivial, fun h => wide_depth h, ?_⟩ | refine ⟨trivial, ?_⟩); gi_at_call 59; (with_reducible refine (CallsIn.inRound _ (callsIn_wide.2 (ratio_is HR1.out (by omega) (by omega) (by omega) (by omega) _))).mono ?_); rintro e w' ⟨rfl, rfl⟩) | ((first | refine ⟨trivial, fun h => wide_depth h, ?_⟩ | refine ⟨trivial, ?_⟩); gi_at_call 59; (with_reducible refine (CallsIn.inRound _ (callsIn_wide.2 (ratio_is HR2.out (by omega) (by omega) (by omega) (by omega) _))).mono ?_); rintro e w' ⟨rfl, rfl⟩))
        have hgw : grpW d1 (2 * d1) = [0, 9 * d1 * 3 * 3, 9 * d1 * 3] := by rw [grpW_2 f11]; simp only [List.cons.injEq, and_true, true_and]; omega
        refine ⟨trivial, ?_⟩
        refine (CallsIn.inRound l (callsIn_wide.2 (HI.out.add (by repeat' (first | (with_reducible exact Below.refl _ _) | (with_reducible assumption) | (refine below_step (by assumption) ?_ ?_) | (with_reducible refine below_drewN ?_ _) | (with_reducible refine Below.drew ?_) | (with_reducible refine Below.alloc ?_ ?_ _) | (with_reducible refine Below.setCell ?_ ?_ _) | go_size)) (grpW d1 (2 * d1)) (m := 3) (by rw [hgw]; rfl) ?a1 (by rw [hgw]; exact (Arr.built _ _).rd) (by omega) hlen ?a3 ?a4 ?a5))).mono ?_
        case a1 => intro b' off' e; cases e; exact Nat.le_refl _
        case a3 => intro j; have := HBD.out j; omega
        case a4 => intro j; have := HBW.out j; omega
        case a5 => rw [wtAcc_succ HX.out]; simp only [addG, Int.toNat_natCast, HD1.out, HD2.out]; rw [if_neg (by omega)]
        rintro e W4 ⟨rfl, hI', hR'⟩
        have HI' := Lib.hid hI'
        have HR' := Lib.hid hR'
        clear hI' hR' hgw
        gi_wp2
        exact ⟨Y, HI'.out, HR'.out⟩
      · subst e
        have t1 := cell_da z1
        have t0 := cell_da p0
        have hmin : min d1 (3 * d1) = d1 := by omega
        have HR1 := Lib.hid r1
        have HR2 := Lib.hid r2
        clear r1 r2 hpair
        gi_wp2
        (refine region_quiet_round _ (by kernel_rfl) (by kernel_rfl) (by kernel_rfl) ?_; (repeat gi_big_quiet_step (fail)); refine wpQuietIn_nil ?_; intro _ hw'; obtain ⟨nq, hw''⟩ := hw'; subst hw'')
        gi_wp2
        (refine region_quiet_round _ (by kernel_rfl) (by kernel_rfl) (by kernel_rfl) ?_; (repeat gi_big_quiet_step (fail)); refine wpQuietIn_nil ?_; intro _ hw'; obtain ⟨nq, hw''⟩ := hw'; subst hw'')
        gi_wp2_with (first | ((first | refine ⟨trivial, fun h => wide_depth h, ?_⟩ | refine ⟨trivial, ?_⟩); gi_at_call 59; (with_reducible refine (CallsIn.inRound _ (callsIn_wide.2 (ratio_is HR1.out (by omega) (by omega) (by omega) (by omega) _))).mono ?_); rintro e w' ⟨rfl, rfl⟩) | ((first | refine ⟨trivial, fun h => wide_depth h, ?_⟩ | refine ⟨trivial, ?_⟩); gi_at_call 59; (with_reducible refine (CallsIn.inRound _ (callsIn_wide.2 (ratio_is HR2.out (by omega) (by omega) (by omega) (by omega) _))).mono ?_); rintro e w' ⟨rfl, rfl⟩))
        have hgw : grpW d1 (3 * d1) = [-(8 * d1 * 3), 8 * d1 * 4 * 4, 8 * d1 * 5] := by rw [grpW_3 f11]; simp only [List.cons.injEq, and_true, true_and]; omega
        refine ⟨trivial, ?_⟩
        refine (CallsIn.inRound l (callsIn_wide.2 (HI.out.add (by repeat' (first | (with_reducible exact Below.refl _ _) | (with_reducible assumption) | (refine below_step (by assumption) ?_ ?_) | (with_reducible refine below_drewN ?_ _) | (with_reducible refine Below.drew ?_) | (with_reducible refine Below.alloc ?_ ?_ _) | (with_reducible refine Below.setCell ?_ ?_ _) | go_size)) (grpW d1 (3 * d1)) (m := 3) (by rw [hgw]; rfl) ?a1 (by rw [hgw]; exact (Arr.built _ _).rd) (by omega) hlen ?a3 ?a4 ?a5))).mono ?_
        case a1 => intro b' off' e; cases e; exact Nat.le_refl _
        case a3 => intro j; have := HBD.out j; omega
        case a4 => intro j; have := HBW.out j; omega
        case a5 => rw [wtAcc_succ HX.out]; simp only [addG, Int.toNat_natCast, HD1.out, HD2.out]; rw [if_neg (by omega)]
        rintro e W4 ⟨rfl, hI', hR'⟩
        have HI' := Lib.hid hI'
        have HR' := Lib.hid hR'
        clear hI' hR' hgw
        gi_wp2
        exact ⟨Y, HI'.out, HR'.out⟩
      · subst e
        have t1 := cell_da z1
        have t0 := cell_da p0
        have hmin : min (2 * d2) d2 = d2 := by omega
        have HR1 := Lib.hid r1
        have HR2 := Lib.hid r2
        clear r1 r2 hpair
        gi_wp2
        (refine region_quiet_round _ (by kernel_rfl) (by kernel_rfl) (by kernel_rfl) ?_; (repeat gi_big_quiet_step (fail)); refine wpQuietIn_nil ?_; intro _ hw'; obtain ⟨nq, hw''⟩ := hw'; subst hw'')
        gi_wp2
        (refine region_quiet_round _ (by kernel_rfl) (by kernel_rfl) (by kernel_rfl) ?_; (repeat gi_big_quiet_step (fail)); refine wpQuietIn_nil ?_; intro _ hw'; obtain ⟨nq, hw''⟩ := hw'; subst hw'')
        gi_wp2_with (first | ((first | refine ⟨trivial, fun h => wide_depth h, ?_⟩ | refine ⟨trivial, ?_⟩); gi_at_call 59; (with_reducible refine (CallsIn.inRound _ (callsIn_wide.2 (ratio_is HR1.out (by omega) (by omega) (by omega) (by omega) _))).mono ?_); rintro e w' ⟨rfl, rfl⟩) | ((first | refine ⟨trivial, fun h => wide_depth h, ?_⟩ | refine ⟨trivial, ?_⟩); gi_at_call 59; (with_reducible refine (CallsIn.inRound _ (callsIn_wide.2 (ratio_is HR2.out (by omega) (by omega) (by omega) (by omega) _))).mono ?_); rintro e w' ⟨rfl, rfl⟩))
        refine ⟨trivial, ?_⟩
        refine (CallsIn.inRound l (callsIn_wide.2 (rev3_any _ _ _ _ _ _ (Arr.built _ [0, 9 * d2 * 3 * 3, 9 * d2 * 3])))).mono ?_
        rintro e W3 ⟨rfl, ha3, ho3⟩
        have hb3 : Below W.heap.size W W3 := Below.of_only (by repeat' (first | (with_reducible exact Below.refl _ _) | (with_reducible assumption) | (refine below_step (by assumption) ?_ ?_) | (with_reducible refine below_drewN ?_ _) | (with_reducible refine Below.drew ?_) | (with_reducible refine Below.alloc ?_ ?_ _) | (with_reducible refine Below.setCell ?_ ?_ _) | go_size)) ho3 (Nat.le_refl _)
        have t1' := cell_later hb3 z1
        have t0' := cell_later hb3 p0
        have HA3 := Lib.hid ha3
        have HB3 := Lib.hid hb3
        clear ha3 hb3 ho3 t1 t0
        gi_wp2_with fail
        have hgw : grpW (2 * d2) d2 = [9 * d2 * 3, 9 * d2 * 3 * 3, 0] := by rw [grpW_4 f21]; simp only [List.cons.injEq, and_true, true_and]; omega
        refine ⟨trivial, ?_⟩
        refine (CallsIn.inRound l (callsIn_wide.2 (HI.out.add HB3.out (grpW (2 * d2) d2) (m := 3) (by rw [hgw]; rfl) ?a1 (by rw [hgw]; exact HA3.out.rd) (by omega) hlen ?a3 ?a4 ?a5))).mono ?_
        case a1 => intro b' off' e; cases e; exact Nat.le_refl _
        case a3 => intro j; have := HBD.out j; omega
        case a4 => intro j; have := HBW.out j; omega
        case a5 => rw [wtAcc_succ HX.out]; simp only [addG, Int.toNat_natCast, HD1.out, HD2.out]; rw [if_neg (by omega)]
        rintro e W4 ⟨rfl, hI', hR'⟩
        have HI' := Lib.hid hI'
        have HR' := Lib.hid hR'
        clear hI' hR' hgw
        gi_wp2
        exact ⟨Y, HI'.out, HR'.out⟩
      · subst e
        have t1 := cell_da z1
        have t0 := cell_da p0
        have hmin : min (3 * d2) d2 = d2 := by omega
        have HR1 := Lib.hid r1
        have HR2 := Lib.hid r2
        clear r1 r2 hpair
        gi_wp2
        (refine region_quiet_round _ (by kernel_rfl) (by kernel_rfl) (by kernel_rfl) ?_; (repeat gi_big_quiet_step (fail)); refine wpQuietIn_nil ?_; intro _ hw'; obtain ⟨nq, hw''⟩ := hw'; subst hw'')
        gi_wp2
        (refine region_quiet_round _ (by kernel_rfl) (by kernel_rfl) (by kernel_rfl) ?_; (repeat gi_big_quiet_step (fail)); refine wpQuietIn_nil ?_; intro _ hw'; obtain ⟨nq, hw''⟩ := hw'; subst hw'')
        gi_wp2_with (first | ((first | refine ⟨trivial, fun h => wide_depth h, ?_⟩ | refine ⟨trivial, ?_⟩); gi_at_call 59; (with_reducible refine (CallsIn.inRound _ (callsIn_wide.2 (ratio_is HR1.out (by omega) (by omega) (by omega) (by omega) _))).mono ?_); rintro e w' ⟨rfl, rfl⟩) | ((first | refine ⟨trivial, fun h => wide_depth h, ?_⟩ | refine ⟨trivial, ?_⟩); gi_at_call 59; (with_reducible refine (CallsIn.inRound _ (callsIn_wide.2 (ratio_is HR2.out (by omega) (by omega) (by omega) (by omega) _))).mono ?_); rintro e w' ⟨rfl, rfl⟩))
        refine ⟨trivial, ?_⟩
        refine (CallsIn.inRound l (callsIn_wide.2 (rev3_any _ _ _ _ _ _ (Arr.built _ [-(8 * d2 * 3), 8 * d2 * 4 * 4, 8 * d2 * 5])))).mono ?_
        rintro e W3 ⟨rfl, ha3, ho3⟩
        have hb3 : Below W.heap.size W W3 := Below.of_only (by repeat' (first | (with_reducible exact Below.refl _ _) | (with_reducible assumption) | (refine below_step (by assumption) ?_ ?_) | (with_reducible refine below_drewN ?_ _) | (with_reducible refine Below.drew ?_) | (with_reducible refine Below.alloc ?_ ?_ _) | (with_reducible refine Below.setCell ?_ ?_ _) | go_size)) ho3 (Nat.le_refl _)
        have t1' := cell_later hb3 z1
        have t0' := cell_later hb3 p0
        have HA3 := Lib.hid ha3
        have HB3 := Lib.hid hb3
        clear ha3 hb3 ho3 t1 t0
        gi_wp2_with fail
        have hgw : grpW (3 * d2) d2 = [8 * d2 * 5, 8 * d2 * 4 * 4, -(8 * d2 * 3)] := by rw [grpW_5 f21]; simp only [List.cons.injEq, and_true, true_and]; omega
        refine ⟨trivial, ?_⟩
        refine (CallsIn.inRound l (callsIn_wide.2 (HI.out.add HB3.out (grpW (3 * d2) d2) (m := 3) (by rw [hgw]; rfl) ?a1 (by rw [hgw]; exact HA3.out.rd) (by omega) hlen ?a3 ?a4 ?a5))).mono ?_
        case a1 => intro b' off' e; cases e; exact Nat.le_refl _
        case a3 => intro j; have := HBD.out j; omega
        case a4 => intro j; have := HBW.out j; omega
        case a5 => rw [wtAcc_succ HX.out]; simp only [addG, Int.toNat_natCast, HD1.out, HD2.out]; rw [if_neg (by omega)]
        rintro e W4 ⟨rfl, hI', hR'⟩
        have HI' := Lib.hid hI'
        have HR' := Lib.hid hR'
        clear hI' hR' hgw
        gi_wp2
        exact ⟨Y, HI'.out, HR'.out⟩
  case done =>
    intro Y W hI hD
    have hsum := hI.sum
    have HI := Lib.hid hI
    have HD := Lib.hid hD
    clear hI hD
    gi_wp2
    refine ⟨by simp, .inl ⟨_, _, rfl, run_takeDeferred HD.out, ?_⟩⟩
    have k := HI.out.keep ((Keep.refl (w.heap.size + 5) Y W).putObj (l := w.heap.size + 5) (by omega) (fun h => by have := HI.out.Y1 _ h; omega) (.deferred none)) (by omega)
    have e : (weightsZ xs).length = xs.length := wtAcc_length xs _
    simp only [World.size_alloc]
    refine ⟨_, results_tmp rfl _ _ _, w.heap.size + 1, by rw [e]; rfl, by omega, ?_, ?_⟩
    · exact k.arr
    · exact k.below

end Go.Proofs.YtdlmdaononclgaaDoor
