import Derived.Test.YtdlmdaononclgaaDoorGrid
/- Volume and Litres. -/
namespace Go.Proofs.YtdlmdaononclgaaDoor
open Go.RowKit
set_option linter.unusedVariables false
set_option linter.unusedSimpArgs false
attribute [local go_sem] Oper.semAt_some

/-- the sum over the first t pairs, as the code adds it up. -/
def volT (gs hs : List (List Int)) (m : Nat) : Nat → Int
  | 0 => 0
  | t + 1 => IntKind.i64.wrap (volT gs hs m t + IntKind.i64.wrap (IntKind.i64.wrap (2 * ix (rx gs (t / m)) (t % m)) * ix (rx hs (t / m)) (t % m)))
theorem volT_succ (gs hs : List (List Int)) {m t i k : Nat} (hk : k < m) (ht : t = i * m + k) :
    volT gs hs m (t + 1) = IntKind.i64.wrap (volT gs hs m t + IntKind.i64.wrap (IntKind.i64.wrap (2 * ix (rx gs i) k) * ix (rx hs i) k)) := by
  have e1 : t / m = i := by rw [ht, Nat.mul_comm, Nat.mul_add_div (by omega), Nat.div_eq_of_lt hk]; rfl
  have e2 : t % m = k := by rw [ht, Nat.mul_comm, Nat.mul_add_mod, Nat.mod_eq_of_lt hk]
  rw [volT, e1, e2]
def volZ (xs zs : List Int) (rs : List (List Int)) : Int := volT (gridZ xs zs) rs zs.length (xs.length * zs.length)

/-- what holds between two rounds of Volume. -/
structure VI (W0 : World) (acc : Nat) (T : Nat → Int) (t : Nat) (Y : Nat → Prop) (W : World) : Prop where
  Y : ∀ k, Y k ↔ k = acc
  os : W.os = W0.os
  tape : W.tape = W0.tape
  output : W.output = W0.output
  size : W0.heap.size ≤ W.heap.size
  block : ∀ k, k < W0.heap.size → k ≠ acc → W.heap[k]? = W0.heap[k]?
  cell : W.heap[acc]? = some (.cells #[.int .i64 (T t)] 3 (0, 0))
theorem VI.keep {W0 : World} {acc : Nat} {T : Nat → Int} {t D : Nat} {Y : Nat → Prop} {W W' : World} (h : VI W0 acc T t Y W) (k : Keep D Y W W') (hD : D = W0.heap.size) : VI W0 acc T t Y W' := by
  subst hD
  have hs := h.size
  exact ⟨h.Y, k.os.trans h.os, k.tape.trans h.tape, k.output.trans h.output, Nat.le_trans h.size k.size, fun b hb hne => (k.block b (by omega) (.inl hb)).trans (h.block b hb hne),
    (k.block acc (Array.getElem?_eq_some_iff.1 h.cell).1 (.inr ((h.Y acc).2 rfl))).trans h.cell⟩
theorem VI.cellAt {W0 : World} {acc : Nat} {T : Nat → Int} {t : Nat} {Y : Nat → Prop} {W : World} (h : VI W0 acc T t Y W) {p : Addr} {v : Value} (hc : W0.cell? p = some v) (hne : p.block ≠ acc) : W.cell? p = some v := by
  obtain ⟨c, e, f, hb⟩ := cell_block hc
  exact (World.cell?_of_block (h.block _ (Array.getElem?_eq_some_iff.1 hb).1 hne)).trans hc

theorem VI.set {W0 : World} {acc : Nat} {T : Nat → Int} {t : Nat} {W : World} (h : VI W0 acc T t (fun k => k = acc) W) {v : Int} (hv : T (t + 1) = v) :
    VI W0 acc T (t + 1) (fun k => k = acc) ((W.drewN 1).setCell ⟨acc, 0, none⟩ (.int .i64 v)) ∧ Round (fun k => k = acc) (fun k => k = acc) W ((W.drewN 1).setCell ⟨acc, 0, none⟩ (.int .i64 v)) := by
  have hc := h.cell
  have hlt := (Array.getElem?_eq_some_iff.1 hc).1
  have hs := h.size
  have hb : ∀ k, k ≠ acc → ((W.drewN 1).setCell ⟨acc, 0, none⟩ (.int .i64 v)).heap[k]? = W.heap[k]? := fun k hk => Below.heap_setCell _ _ _ _ hk
  refine ⟨⟨fun _ => Iff.rfl, h.os, h.tape, h.output, by simp [World.setCell, World.drewN]; exact hs, fun k hk hne => (hb k hne).trans (h.block k hk hne), ?_⟩, ⟨rfl, rfl, rfl, by simp [World.setCell, World.drewN], fun k hk hne => hb k hne, fun k hk => .inl hk, fun k hk => by subst hk; simpa [World.setCell, World.drewN] using hlt⟩⟩
  subst hv
  have hc' : (W.drewN 1).heap[acc]? = some (.cells #[.int .i64 (T t)] 3 (0, 0)) := hc
  show (W.setCell ⟨acc, 0, none⟩ (.int .i64 (T (t + 1)))).heap[acc]? = _
  simp [World.setCell, Array.getElem?_modify, hc]
theorem RR.cells_at {w : World} {B G : Nat} {vs : List Value} {rs : List (List Int)} (h : RR w B (some ⟨G, 0, none⟩) vs rs) {i : Nat} (hi : i < rs.length) : G < B ∧ w.cell? ⟨G, i, none⟩ = some (vx vs i) := by
  obtain ⟨b, off, e, hb, hc⟩ := h.cells (by omega)
  cases e
  exact ⟨hb, by have := hc i hi; rwa [Nat.zero_add] at this⟩
theorem TBox.later {w w1 : World} {a b c : Value} {t : TypeId} (h : Below (w.alloc (.cells #[a, b, c] t)).heap.size (w.alloc (.cells #[a, b, c] t)) w1) : TBox w1 w.heap.size a b c := by
  have e : ∀ j v, (#[a, b, c] : Array Value)[j]? = some v → w1.cell? ⟨w.heap.size, j, none⟩ = some v := fun j v hv => by
    rw [h.cell (p := ⟨w.heap.size, j, none⟩) (by simp), cell_of_row _ w.heap.size j _ _ _ (heap_alloc_new w _)]
    exact hv
  exact ⟨e 0 a rfl, e 1 b rfl, e 2 c rfl⟩
theorem TBox.keep {w w1 : World} {q : Nat} {a b c : Value} (h : TBox w q a b c) (hb : Below w.heap.size w w1) : TBox w1 q a b c := ⟨cell_later hb h.c0, cell_later hb h.c1, cell_later hb h.c2⟩

set_option maxHeartbeats 2000000 in
set_option maxRecDepth 100000 in
theorem Volume_yes {xs zs : List Int} {rs : List (List Int)} (hr : tableB xs zs rs = true) (A1 : Option Addr) (c1 : Nat) (A2 : Option Addr) (c2 : Nat) (A3 : Option Addr) (c3 : Nat) (vs : List Value) (w : World) (h : TD w w.heap.size xs zs rs A1 c1 A2 c2 A3 c3 vs) :
    Calls Tryd.prog 6 #[.agg #[.slice A1 xs.length c1, .slice A2 zs.length c2, .slice A3 rs.length c3]] w fun e w' => e = .returned (.tuple #[.int .i64 (volZ xs zs rs), .int .i64 0]) ∧ Below w.heap.size w w' := by
  have hmf : ∀ (fn : Fn) (first cap : Array Value) (w : World), (Instr.makeFunc fn first cap).run Tryd.prog w = .ok (.func fn first cap) w := fun _ _ _ _ => rfl
  have hr' := hr
  simp only [tableB, gridB, Bool.and_eq_true, decide_eq_true_eq] at hr'
  obtain ⟨⟨hP', hQ'⟩, hrl, hbad⟩ := hr'
  have hP := okP_true hP'
  have hQ := okP_true hQ'
  have hlen : xs.length ≤ 9 := by have := hP.many; omega
  have hlenz : zs.length ≤ 7 := by have := hQ.many; omega
  obtain ⟨b1, off1, rfl, hbl1, hcl1⟩ := h.rd1.ints (by have := hP.two; omega)
  obtain ⟨b2, off2, rfl, hbl2, hcl2⟩ := h.rd2.ints (by have := hQ.two; omega)
  have HC1 := Lib.hid hcl1
  have HC2 := Lib.hid hcl2
  clear hcl1 hcl2
  have H := Lib.hid h
  have HRL := Lib.hid hrl
  have HBAD := Lib.hid hbad
  have HR := Lib.hid hr
  clear h hP' hQ' hrl hbad hr
  refine (callsIn_wide (n := 9)).1 ?_
  refine callsIn_of_wp_marks Tryd.func6 rfl trivial ?_ rfl
  simp only [Tryd.ntmps6, List.size_toArray, List.length_cons, List.length_nil, Nat.reduceAdd, Nat.reduceSub, Array.replicate_succ, Array.replicate_zero, List.push_toArray, List.append_toArray, List.nil_append, List.cons_append]
  gi_wp2_with (first | ((first | refine ⟨trivial, fun h => wide_depth h, ?_⟩ | refine ⟨trivial, ?_⟩); gi_at_call 20; (with_reducible refine (callsIn_wide.2 (isTable_is HR.out (some ⟨b1, off1, none⟩) c1 (some ⟨b2, off2, none⟩) c2 A3 c3 vs _ ((H.out.keep (by repeat' (first | (with_reducible exact Below.refl _ _) | (with_reducible assumption) | (refine below_step (by assumption) ?_ ?_) | (with_reducible refine below_drewN ?_ _) | (with_reducible refine Below.drew ?_) | (with_reducible refine Below.alloc ?_ ?_ _) | (with_reducible refine Below.setCell ?_ ?_ _) | go_size)) (Nat.le_refl _)).more (by simp)))).mono ?_); rintro e w1 ⟨rfl, hb1⟩; obtain ⟨t0, t1, t2⟩ := TBox.later hb1) | ((first | refine ⟨trivial, fun h => wide_depth h, ?_⟩ | refine ⟨trivial, ?_⟩); gi_at_call 17; (with_reducible refine (callsIn_wide.2 (grid_any xs zs (some ⟨b1, off1, none⟩) c1 (some ⟨b2, off2, none⟩) c2 hP hQ H.out.hc1 H.out.hm1 H.out.hc2 H.out.hm2 _ ((H.out.rd1.keep (below_step hb1 (by repeat' (first | (with_reducible exact Below.refl _ _) | (with_reducible assumption) | (refine below_step (by assumption) ?_ ?_) | (with_reducible refine below_drewN ?_ _) | (with_reducible refine Below.drew ?_) | (with_reducible refine Below.alloc ?_ ?_ _) | (with_reducible refine Below.setCell ?_ ?_ _) | go_size)) (by simp)) (Nat.le_refl _)).more (by have := hb1.size; simp at this; omega)) ((H.out.rd2.keep (below_step hb1 (by repeat' (first | (with_reducible exact Below.refl _ _) | (with_reducible assumption) | (refine below_step (by assumption) ?_ ?_) | (with_reducible refine below_drewN ?_ _) | (with_reducible refine Below.drew ?_) | (with_reducible refine Below.alloc ?_ ?_ _) | (with_reducible refine Below.setCell ?_ ?_ _) | go_size)) (by simp)) (Nat.le_refl _)).more (by have := hb1.size; simp at this; omega)))).mono ?_); rintro e w2 ⟨G, base, gv, rfl, hG, hgo, hb2⟩; obtain ⟨u0, u1, u2⟩ := TBox.keep ⟨t0, t1, t2⟩ hb2; have hqt : w.heap.size < w2.heap.size := by have h1 := hb1.size; have h2 := hb2.size; rw [World.size_alloc] at h1; omega) | ((first | refine ⟨trivial, fun h => wide_depth h, ?_⟩ | refine ⟨trivial, ?_⟩); gi_at_call 21; (with_reducible refine (callsIn_wide.2 (pairs_any _ _ _ _ _ _ _ _ _ rfl rfl)).mono ?_); rintro e w' ⟨rfl, rfl⟩))
  have hb0 : Below w.heap.size w w2 := below_step hb2 (below_step hb1 (by repeat' (first | (with_reducible exact Below.refl _ _) | (with_reducible assumption) | (refine below_step (by assumption) ?_ ?_) | (with_reducible refine below_drewN ?_ _) | (with_reducible refine Below.drew ?_) | (with_reducible refine Below.alloc ?_ ?_ _) | (with_reducible refine Below.setCell ?_ ?_ _) | go_size)) (by simp)) (by have h1 := hb1.size; rw [World.size_alloc] at h1; omega)
  generalize hW0 : (((w2.alloc (.cells #[.slice (some ⟨G, 0, none⟩) (gridZ xs zs).length (gridZ xs zs).length] 23)).alloc (.cells #[.int .i64 0] 3)).alloc (.cells #[.slice (some ⟨b1, off1, none⟩) xs.length c1] 22)).alloc (.cells #[.slice (some ⟨b2, off2, none⟩) zs.length c2] 22) = W0
  have s0 : W0.heap.size = w2.heap.size + 4 := by rw [← hW0]; simp
  have BW : Below w2.heap.size w2 W0 := by rw [← hW0]; repeat' (first | (with_reducible exact Below.refl _ _) | (with_reducible assumption) | (refine below_step (by assumption) ?_ ?_) | (with_reducible refine below_drewN ?_ _) | (with_reducible refine Below.drew ?_) | (with_reducible refine Below.alloc ?_ ?_ _) | (with_reducible refine Below.setCell ?_ ?_ _) | go_size)
  have ca : W0.heap[w2.heap.size + 1]? = some (.cells #[.int .i64 0] 3 (0, 0)) := by
    have h0 := heap_alloc_new (w2.alloc (.cells #[.slice (some ⟨G, 0, none⟩) (gridZ xs zs).length (gridZ xs zs).length] 23)) (.cells #[.int .i64 0] 3)
    rw [World.size_alloc] at h0
    rw [← h0, ← hW0]
    exact Below.block (B := w2.heap.size + 2) (by repeat' (first | (with_reducible exact Below.refl _ _) | (with_reducible assumption) | (refine below_step (by assumption) ?_ ?_) | (with_reducible refine below_drewN ?_ _) | (with_reducible refine Below.drew ?_) | (with_reducible refine Below.alloc ?_ ?_ _) | (with_reducible refine Below.setCell ?_ ?_ _) | go_size)) _ (by omega)
  have c4 : W0.cell? ⟨w2.heap.size, 0, none⟩ = some (.slice (some ⟨G, 0, none⟩) (gridZ xs zs).length (gridZ xs zs).length) := by rw [← hW0]; simp [go_sem]
  have cq1 : W0.cell? ⟨w2.heap.size + 1 + 1, 0, none⟩ = some (.slice (some ⟨b1, off1, none⟩) xs.length c1) := by rw [← hW0]; simp [go_sem]
  have cq2 : W0.cell? ⟨w2.heap.size + 1 + 1 + 1, 0, none⟩ = some (.slice (some ⟨b2, off2, none⟩) zs.length c2) := by rw [← hW0]; simp [go_sem]
  have hG1 : G < w2.heap.size := (Array.getElem?_eq_some_iff.1 hgo.blk).1
  have hgl : (gridZ xs zs).length = xs.length := (gridT_length _ _ _).trans (weightsZ_length xs)
  have hgrl : ∀ i, i < xs.length → ∀ k, k < zs.length → k < (rx (gridZ xs zs) i).length := fun i hi k hk => by
    rw [gridZ, gridT_full (by rw [weightsZ_length]; exact hi)]
    simp [weightsZ_length, hk]
  have hhl : ∀ i, i < xs.length → (rx rs i).length = zs.length := fun i hi => by
    have hno : anyR (rowBad zs.length) rs = false := by have := HBAD.out; simpa using this
    rw [anyR, List.any_eq_false] at hno
    have hir : i < rs.length := by rw [HRL.out]; exact hi
    have := hno _ (List.getElem_mem hir)
    have e : rx rs i = rs[i] := by simp [rx, List.getD, List.getElem?_eq_getElem hir]
    rw [← e] at this
    simp only [rowBad, Bool.or_eq_true, Bool.not_eq_true', decide_eq_false_iff_not, not_or, Classical.not_not] at this
    exact this.1
  have RG := Lib.hid (hgo.rr.keep BW (Nat.le_refl _))
  have HT3 := Lib.hid ((H.out.rd3.keep (below_step BW hb0 hb0.size) (Nat.le_refl _)))
  have v2 := cell_later BW u2
  have HGL := Lib.hid hgl
  have HGRL := Lib.hid hgrl
  have HHL := Lib.hid hhl
  have HB0 := Lib.hid (below_step BW hb0 hb0.size)
  have HCA := Lib.hid ca
  have X1 := Lib.hid cq1
  have X2 := Lib.hid cq2
  have D1 := Lib.hid (fun j hj => ((below_step BW hb0 hb0.size).cell (p := ⟨b1, off1 + j, none⟩) hbl1).trans (HC1.out j hj))
  have D2 := Lib.hid (fun j hj => ((below_step BW hb0 hb0.size).cell (p := ⟨b2, off2 + j, none⟩) hbl2).trans (HC2.out j hj))
  have hwle := hb0.size
  clear hW0 hgl hgrl hhl ca cq1 cq2 hgo hb0 hb1 hb2 u0 u1 u2 t0 t1 t2 BW HC1 HC2
  refine rangeE (F := Fence.wide) (E := PE xs zs) (ys := pairsL xs.length zs.length)
    (H := fun Y W => HG (w2.heap.size + 1 + 1) xs (some ⟨b1, off1, none⟩) c1 Y W ∧ HG (w2.heap.size + 1 + 1 + 1) zs (some ⟨b2, off2, none⟩) c2 Y W) rfl (by omega)
    (gf := 45) (lb := #[.pointer (some ⟨w2.heap.size + 1 + 1, 0, none⟩), .pointer (some ⟨w2.heap.size + 1 + 1 + 1, 0, none⟩)]) rfl trivial (enters_of Tryd.func45 (by kernel_rfl) rfl)
    (pairs1_yields _ _ _ _ _ _ _ _ _ H.out.hc1 H.out.hm1 H.out.hc2 H.out.hm2 (by omega) (by omega))
    (fun x W vs hE => by obtain ⟨p, q, rfl, _⟩ := hE; rfl)
    (VI W0 (w2.heap.size + 1) (volT (gridZ xs zs) rs zs.length)) (fun _ _ _ _ => False) (fun k => k = w2.heap.size + 1) (fun k hk => by omega)
    (fun i Y A B h k => h.keep k rfl) (fun _ _ _ _ _ h _ => h)
    ⟨fun _ => Iff.rfl, rfl, rfl, rfl, Nat.le_refl _, fun _ _ _ => rfl, HCA.out⟩ ?hH
    (fun x a' W => ∃ p6 p q, a' = { tmps := #[.agg #[.slice (some ⟨b1, off1, none⟩) xs.length c1, .slice (some ⟨b2, off2, none⟩) zs.length c2, .slice A3 rs.length c3], .pointer (some ⟨w.heap.size, 0, none⟩), .int .i64 0, .int .i64 0, .pointer (some ⟨w2.heap.size, 0, none⟩), .pointer (some ⟨w2.heap.size + 1, 0, none⟩), .pointer (some ⟨p6, 0, none⟩), .agg #[.slice (some ⟨b1, off1, none⟩) xs.length c1, .slice (some ⟨b2, off2, none⟩) zs.length c2, .slice A3 rs.length c3], .bool true, .bool false, .pointer (some ⟨w.heap.size, 0, none⟩), .slice (some ⟨b1, off1, none⟩) xs.length c1, .pointer (some ⟨w.heap.size, 1, none⟩), .slice (some ⟨b2, off2, none⟩) zs.length c2, .slice (some ⟨G, 0, none⟩) (gridZ xs zs).length (gridZ xs zs).length, .pointer (some ⟨w.heap.size, 0, none⟩), .slice (some ⟨b1, off1, none⟩) xs.length c1, .pointer (some ⟨w.heap.size, 1, none⟩), .slice (some ⟨b2, off2, none⟩) zs.length c2, .func (.func 45) #[] #[.pointer (some ⟨w2.heap.size + 1 + 1, 0, none⟩), .pointer (some ⟨w2.heap.size + 1 + 1 + 1, 0, none⟩)], .agg #[.int .i64 x.1, .int .i64 x.2], .func (.func 46) #[] #[.pointer (some ⟨p, 0, none⟩), .pointer (some ⟨q, 0, none⟩)], undef, undef, undef, undef, undef, undef, undef, undef, undef, undef, undef, undef, undef, undef, undef, undef, undef, undef, undef, undef, undef, undef, undef, undef], defers := [] } ∧
      W.heap[p6]? = some (.cells #[.int .i64 x.1, .int .i64 x.2] 43 (0, 0)))
    ?hAx ?assign ?body ?done (fun _ _ _ _ h => h.elim)
  case hH =>
    intro W Z hB hZ
    have hs := hB.size
    have hzk : ∀ k, Z k → k = w2.heap.size + 1 ∨ w2.heap.size + 4 ≤ k := fun k hk => by
      rcases hZ k hk with h | h
      · exact .inl h
      · right; omega
    refine ⟨⟨cell_later hB X1.out, by omega, fun h => by have := hzk _ h; omega, b1, off1, rfl, by omega, fun h => by have := hzk _ h; omega, fun j hj => cell_later hB (D1.out j hj)⟩, ⟨cell_later hB X2.out, by omega, fun h => by have := hzk _ h; omega, b2, off2, rfl, by omega, fun h => by have := hzk _ h; omega, fun j hj => cell_later hB (D2.out j hj)⟩⟩
  case hAx =>
    rintro x a' A B ⟨p6, p, q, rfl, h1⟩ hk
    have e8 := hk p6 (Array.getElem?_eq_some_iff.1 h1).1 ⟨_, _, _, h1⟩
    exact ⟨p6, p, q, rfl, e8.trans h1⟩
  case assign =>
    rintro l i x Y W vs K hx hI hlt ⟨p, q, rfl, hp, hq⟩ hK
    have HK := Lib.hid hK
    have HI := Lib.hid hI
    clear hK hI hlt hp hq
    gi_wp2
    exact HK.out _ _ (by go_grown) ⟨_, _, _, rfl, heap_alloc_new W _⟩
  case body =>
    rintro l t ⟨i, k⟩ a' Y W hl ⟨r, hr⟩ hx hI hlt ⟨p6, p, q, rfl, hc6⟩
    obtain ⟨hi, hk, ht⟩ := pairsL_at hx
    simp only at hi hk ht hc6
    obtain rfl : Y = (fun k => k = w2.heap.size + 1) := funext fun k => propext (hI.Y k)
    have hir : i < rs.length := by rw [HRL.out]; exact hi
    have hig : i < (gridZ xs zs).length := by rw [HGL.out]; exact hi
    have hkg := HGRL.out i hi k hk
    have hkh : k < (rx rs i).length := by rw [HHL.out i hi]; exact hk
    have p60 : W.cell? ⟨p6, 0, none⟩ = some (.int .i64 i) := by rw [cell_of_row W p6 0 _ _ _ hc6]; rfl
    have p61 : W.cell? ⟨p6, 1, none⟩ = some (.int .i64 k) := by rw [cell_of_row W p6 1 _ _ _ hc6]; rfl
    have a0 : W.cell? ⟨w2.heap.size + 1, 0, none⟩ = some (.int .i64 (volT (gridZ xs zs) rs zs.length t)) := by rw [cell_of_row W _ 0 _ _ _ hI.cell]; rfl
    have a1 : W.frozen? ⟨w2.heap.size + 1, 0, none⟩ = false := by have := hI.cell; simp [World.frozen?, this]
    have r4 := hI.cellAt c4 (by show w2.heap.size ≠ _; omega)
    have r2 := hI.cellAt v2 (by show w.heap.size ≠ _; omega)
    have g0 := hI.cellAt (RG.out.cells_at hig).2 (by show G ≠ _; omega)
    obtain ⟨bh, oh, rfl, hbh, hch⟩ := HT3.out.cells (by omega)
    have h0 := hI.cellAt (hch i hir) (by show bh ≠ _; omega)
    obtain ⟨Ag, cg, eg, hcg, hmg, hrg⟩ := RG.out.each i hig
    obtain ⟨bg, og, rfl, hbg, hcgi⟩ := hrg.ints (by omega)
    have g1 := hI.cellAt (hcgi k hkg) (by show bg ≠ _; omega)
    obtain ⟨Ah, ch, eh, hch', hmh, hrh⟩ := HT3.out.each i hir
    obtain ⟨bb, ob, rfl, hbb, hchi⟩ := hrh.ints (by omega)
    have h1 := hI.cellAt (hchi k hkh) (by show bb ≠ _; omega)
    rw [eg] at g0
    rw [eh] at h0
    have HI := Lib.hid hI
    have HT := Lib.hid ht
    clear hI hlt hr hl hx ht hc6 hch hcgi hchi hrg hrh eg eh
    refine wpIn_block ?_
    dsimp only
    (refine region_tail_round l 23 (by kernel_rfl) (by kernel_rfl) (by kernel_rfl) ?_)
    intro K hK
    have HK := Lib.hid hK
    clear hK
    simp only [List.take_succ_cons, List.take_zero, List.drop_succ_cons, List.drop_zero]
    repeat still_step
    try refine wpStill_nil ?_
    show wpList _ _ _ _ _ (W.drewN 1)
    go_wp2
    refine HK.out _ _ ?_
    have hfin := HI.out.set (volT_succ (gridZ xs zs) rs hk HT.out)
    simp only [IntWalk.i64_left] at hfin
    exact ⟨_, hfin.1, hfin.2⟩
  case done =>
    intro Y W hI hD
    obtain rfl : Y = (fun k => k = w2.heap.size + 1) := funext fun k => propext (hI.Y k)
    have a0 : W.cell? ⟨w2.heap.size + 1, 0, none⟩ = some (.int .i64 (volT (gridZ xs zs) rs zs.length (pairsL xs.length zs.length).length)) := by rw [cell_of_row W _ 0 _ _ _ hI.cell]; rfl
    have HI := Lib.hid hI
    have HD := Lib.hid hD
    clear hI hD
    gi_wp2
    refine ⟨by simp, .inl ⟨_, _, rfl, run_takeDeferred HD.out, ?_⟩⟩
    have e : volT (gridZ xs zs) rs zs.length (pairsL xs.length zs.length).length = volZ xs zs rs := by rw [pairsL_length]; rfl
    refine ⟨_, results_tmp2 rfl _ _ _, by rw [← e]; rfl, ?_⟩
    have hI := HI.out
    have hs := hI.size
    have hb : Below w.heap.size w W := HB0.out.trans ⟨hI.os, hI.tape, hI.output, hI.size, fun k hk => hI.block k (by omega) (by omega)⟩
    exact ((Keep.refl W0.heap.size (fun _ => False) W).putObj (l := W0.heap.size) (Nat.le_refl _) (fun h => h) (.deferred none)).below (by omega) hb (by omega)

theorem Volume_no {xs zs : List Int} {rs : List (List Int)} (hr : tableB xs zs rs = false) (A1 : Option Addr) (c1 : Nat) (A2 : Option Addr) (c2 : Nat) (A3 : Option Addr) (c3 : Nat) (vs : List Value) (w : World) (h : TD w w.heap.size xs zs rs A1 c1 A2 c2 A3 c3 vs) :
    Calls Tryd.prog 6 #[.agg #[.slice A1 xs.length c1, .slice A2 zs.length c2, .slice A3 rs.length c3]] w fun e w' => e = .returned (.tuple #[.int .i64 0, .int .i64 13]) ∧ Below w.heap.size w w' := by
  have H := Lib.hid h
  have HR := Lib.hid hr
  clear h hr
  refine (callsIn_wide (n := 9)).1 ?_
  refine callsIn_of_wp_marks Tryd.func6 rfl trivial ?_ rfl
  simp only [Tryd.ntmps6, List.size_toArray, List.length_cons, List.length_nil, Nat.reduceAdd, Nat.reduceSub, Array.replicate_succ, Array.replicate_zero, List.push_toArray, List.append_toArray, List.nil_append, List.cons_append]
  gi_wp2_with ((first | refine ⟨trivial, fun h => wide_depth h, ?_⟩ | refine ⟨trivial, ?_⟩); gi_at_call 20; (with_reducible refine (callsIn_wide.2 (isTable_is HR.out A1 c1 A2 c2 A3 c3 vs _ ((H.out.keep (by repeat' (first | (with_reducible exact Below.refl _ _) | (with_reducible assumption) | (refine below_step (by assumption) ?_ ?_) | (with_reducible refine below_drewN ?_ _) | (with_reducible refine Below.drew ?_) | (with_reducible refine Below.alloc ?_ ?_ _) | (with_reducible refine Below.setCell ?_ ?_ _) | go_size)) (Nat.le_refl _)).more (by simp)))).mono ?_); rintro e w1 ⟨rfl, hb1⟩)
  refine ⟨_, results_tmp2 rfl _ _ _, rfl, ?_⟩
  repeat' (first | (with_reducible exact Below.refl _ _) | (with_reducible assumption) | (refine below_step (by assumption) ?_ ?_) | (with_reducible refine below_drewN ?_ _) | (with_reducible refine Below.drew ?_) | (with_reducible refine Below.alloc ?_ ?_ _) | (with_reducible refine Below.setCell ?_ ?_ _) | go_size)

/-- what Litres answers of a valid table. -/
def litZ (xs zs : List Int) (rs : List (List Int)) : Int := volZ xs zs rs / 1296000000
theorem Litres_yes {xs zs : List Int} {rs : List (List Int)} (hr : tableB xs zs rs = true) (hv0 : -9223372036854775807 ≤ volZ xs zs rs) (hv1 : volZ xs zs rs ≤ 9223372036854775807) (A1 : Option Addr) (c1 : Nat) (A2 : Option Addr) (c2 : Nat) (A3 : Option Addr) (c3 : Nat) (vs : List Value) (w : World) (h : TD w w.heap.size xs zs rs A1 c1 A2 c2 A3 c3 vs) :
    Calls Tryd.prog 8 #[.agg #[.slice A1 xs.length c1, .slice A2 zs.length c2, .slice A3 rs.length c3]] w fun e w' => e = .returned (.tuple #[.int .i64 (litZ xs zs rs), .int .i64 0]) ∧ Below w.heap.size w w' := by
  have H := Lib.hid h
  have HR := Lib.hid hr
  have HV0 := Lib.hid hv0
  have HV1 := Lib.hid hv1
  clear h hr hv0 hv1
  go_enter Tryd.func8, Tryd.ntmps8
  go_wp2_with (first | (go_at_call 6; (with_reducible refine (Volume_yes HR.out A1 c1 A2 c2 A3 c3 vs _ ((H.out.keep (by repeat' (first | (with_reducible exact Below.refl _ _) | (with_reducible assumption) | (refine below_step (by assumption) ?_ ?_) | (with_reducible refine below_drewN ?_ _) | (with_reducible refine Below.drew ?_) | (with_reducible refine Below.alloc ?_ ?_ _) | (with_reducible refine Below.setCell ?_ ?_ _) | go_size)) (Nat.le_refl _)).more (by simp))).mono ?_); rintro e w1 ⟨rfl, hb1⟩) | (go_at_call 22; (with_reducible refine (floor_any _ _ HV0.out HV1.out (by omega) (by omega) _).mono ?_); rintro e w' ⟨rfl, rfl⟩))
  go_returns
  refine ⟨rfl, ?_⟩
  repeat' (first | (with_reducible exact Below.refl _ _) | (with_reducible assumption) | (refine below_step (by assumption) ?_ ?_) | (with_reducible refine below_drewN ?_ _) | (with_reducible refine Below.drew ?_) | (with_reducible refine Below.alloc ?_ ?_ _) | (with_reducible refine Below.setCell ?_ ?_ _) | go_size)

end Go.Proofs.YtdlmdaononclgaaDoor
