import Derived.Test.YtdlmdaononclgaaDoorGridP
import Derived.Test.YtdlmdaononclgaaDoorMB
import Derived.Laws.EntriesVeiled
/- The grid of weights. -/
namespace Go.Proofs.YtdlmdaononclgaaDoor
open Go.RowKit
set_option linter.unusedVariables false
set_option linter.unusedSimpArgs false
attribute [local go_sem] Oper.semAt_some

theorem cell_block {w : World} {p : Addr} {v : Value} (h : w.cell? p = some v) : ∃ c e f, w.heap[p.block]? = some (.cells c e f) := by
  unfold World.cell? at h
  split at h
  · exact ⟨_, _, _, by assumption⟩
  · cases h

/-- what holds between two rounds of grid. -/
structure GI (w : World) (G n : Nat) (ws us : List Int) (t : Nat) (Y : Nat → Prop) (W : World) : Prop where
  rows : ∃ vs, ORows W (G + 4) G vs (gridT ws us t) ∧ ∀ k, Y k ↔ YR G vs k
  below : Below w.heap.size w W
  box : W.cell? ⟨G + 1, 0, none⟩ = some (.slice (some ⟨G, 0, none⟩) n n)
  size : G + 4 ≤ W.heap.size
  low : w.heap.size ≤ G
theorem GI.keep {w : World} {G n : Nat} {ws us : List Int} {t D : Nat} {Y : Nat → Prop} {W W' : World} (h : GI w G n ws us t Y W) (k : Keep D Y W W') (hD : G + 4 ≤ D) : GI w G n ws us t Y W' := by
  obtain ⟨⟨vs, ho, hY⟩, hb, hx, hs, hl⟩ := h
  exact ⟨⟨vs, ho.of_blocks (fun b hb => k.block b (ho.in b hb).2.1 (.inr ((hY b).2 hb))), hY⟩, k.below (by omega) hb (by omega), (k.cell (by show G + 1 < _; omega) (.inl (by show G + 1 < _; omega))).trans hx, by have := k.size; omega, hl⟩

/-- what grid hands back: rows of its own. -/
def RetRows (rs : List (List Int)) (w : World) (e : Ending) (w' : World) : Prop :=
  ∃ G base vs, e = .returned (.slice (some ⟨G, 0, none⟩) rs.length rs.length) ∧ w.heap.size ≤ G ∧ ORows w' base G vs rs ∧ Below w.heap.size w w'

theorem Round.below {Y Y' : Nat → Prop} {a W W' : World} {B : Nat} (h : Round Y Y' W W') (hb : Below B a W) (hY : ∀ k, Y k → B ≤ k) (hB : B ≤ W.heap.size) : Below B a W' :=
  hb.trans ⟨h.os, h.tape, h.output, h.size, fun k hk => h.block k (by omega) (fun hy => by have := hY k hy; omega)⟩

set_option maxHeartbeats 2000000 in
set_option maxRecDepth 100000 in
theorem grid_any (xs zs : List Int) (A : Option Addr) (c : Nat) (A2 : Option Addr) (c2 : Nat) (hP : OkP 9 100000 xs) (hQ : OkP 7 15000 zs) (hc : xs.length ≤ c) (hm : c ≤ 9223372036854775807) (hc2 : zs.length ≤ c2) (hm2 : c2 ≤ 9223372036854775807)
    (w : World) (h : RD w w.heap.size A (ints xs)) (h2 : RD w w.heap.size A2 (ints zs)) :
    Calls Tryd.prog 17 #[.slice A xs.length c, .slice A2 zs.length c2] w (RetRows (gridZ xs zs) w) := by
  have hmf : ∀ (fn : Fn) (first cap : Array Value) (w : World), (Instr.makeFunc fn first cap).run Tryd.prog w = .ok (.func fn first cap) w := fun _ _ _ _ => rfl
  have hlen : xs.length ≤ 9 := by have := hP.many; omega
  have hlenz : zs.length ≤ 7 := by have := hQ.many; omega
  have hmk := make_rows xs.length (by omega)
  have H1 := Lib.hid h
  have H2 := Lib.hid h2
  clear h h2
  refine (callsIn_wide (n := 9)).1 ?_
  refine callsIn_of_wp_marks Tryd.func17 rfl trivial ?_ rfl
  simp only [Tryd.ntmps17, List.size_toArray, List.length_cons, List.length_nil, Nat.reduceAdd, Nat.reduceSub, Array.replicate_succ, Array.replicate_zero, List.push_toArray, List.append_toArray, List.nil_append, List.cons_append]
  gi_wp2_with (first | ((first | refine ⟨trivial, fun h => wide_depth h, ?_⟩ | refine ⟨trivial, ?_⟩); gi_at_call 36; (with_reducible refine (callsIn_wide.2 (weights_any xs A c hP hc hm _ H1.out)).mono ?_); rintro e w1 ⟨g1, rfl, hg1, ha1, hb1⟩) | ((first | refine ⟨trivial, fun h => wide_depth h, ?_⟩ | refine ⟨trivial, ?_⟩); gi_at_call 36; (with_reducible refine (callsIn_wide.2 (weights_any zs A2 c2 hQ.wide hc2 hm2 _ ((H2.out.keep hb1 (Nat.le_refl _)).more hb1.size))).mono ?_); rintro e w2 ⟨g2, rfl, hg2, ha2, hb2⟩) | ((first | refine ⟨trivial, fun h => wide_depth h, ?_⟩ | refine ⟨trivial, ?_⟩); gi_at_call 21; (with_reducible refine (callsIn_wide.2 (pairs_any _ _ _ _ _ _ _ _ _ rfl rfl)).mono ?_); rintro e w' ⟨rfl, rfl⟩))
  have HWL := Lib.hid (weightsZ_length xs)
  have HUL := Lib.hid (weightsZ_length zs)
  have hs1 := hb1.size
  have hs2 := hb2.size
  have HA1 := Lib.hid (ha1.of_block (hb2.block g1 ha1.lt))
  have HA2 := Lib.hid ha2
  have HB2 := Lib.hid (below_step hb2 hb1 (by omega))
  have hl1 : g1 < w2.heap.size := HA1.out.lt
  have hl2 : g2 < w2.heap.size := HA2.out.lt
  clear ha1 ha2 hb1 hb2 hmk H1 H2
  refine rangeE (F := Fence.wide) (E := PE (weightsZ xs) (weightsZ zs)) (ys := pairsL (weightsZ xs).length (weightsZ zs).length)
    (H := fun Y W => HG (w2.heap.size + 1 + 1) (weightsZ xs) (some ⟨g1, 0, none⟩) (weightsZ xs).length Y W ∧ HG (w2.heap.size + 1 + 1 + 1) (weightsZ zs) (some ⟨g2, 0, none⟩) (weightsZ zs).length Y W) rfl (by omega)
    (gf := 45) (lb := #[.pointer (some ⟨w2.heap.size + 1 + 1, 0, none⟩), .pointer (some ⟨w2.heap.size + 1 + 1 + 1, 0, none⟩)]) rfl trivial (enters_of Tryd.func45 (by kernel_rfl) rfl)
    (pairs1_yields _ _ _ _ _ _ _ _ _ (Nat.le_refl _) (by have := HWL.out; omega) (Nat.le_refl _) (by have := HUL.out; omega) (by have := HWL.out; omega) (by have := HUL.out; omega))
    (fun x W vs hE => by obtain ⟨p, q, rfl, _⟩ := hE; rfl)
    (GI w w2.heap.size xs.length (weightsZ xs) (weightsZ zs)) (fun _ _ _ _ => False) (YR w2.heap.size (List.replicate (weightsZ xs).length (.slice none 0 0))) ?hY0
    (fun i Y A B h k => h.keep k (by simp)) (fun _ _ _ _ _ h _ => h)
    ?start ?hH
    (fun x a' W => ∃ p8 p q, a' = { tmps := #[.slice A xs.length c, .slice A2 zs.length c2, undef, undef, .slice none 0 0, .slice (some ⟨g1, 0, none⟩) (weightsZ xs).length (weightsZ xs).length, .slice (some ⟨g2, 0, none⟩) (weightsZ zs).length (weightsZ zs).length, .pointer (some ⟨w2.heap.size + 1, 0, none⟩), .pointer (some ⟨p8, 0, none⟩), .func (.func 46) #[] #[.pointer (some ⟨p, 0, none⟩), .pointer (some ⟨q, 0, none⟩)], undef, undef, .slice A xs.length c, .slice (some ⟨g1, 0, none⟩) (weightsZ xs).length (weightsZ xs).length, .slice A2 zs.length c2, .slice (some ⟨g2, 0, none⟩) (weightsZ zs).length (weightsZ zs).length, .slice A xs.length c, .int .i64 xs.length, .slice (some ⟨w2.heap.size, 0, none⟩) xs.length xs.length, .slice (some ⟨g1, 0, none⟩) (weightsZ xs).length (weightsZ xs).length, .slice (some ⟨g2, 0, none⟩) (weightsZ zs).length (weightsZ zs).length, .func (.func 45) #[] #[.pointer (some ⟨w2.heap.size + 1 + 1, 0, none⟩), .pointer (some ⟨w2.heap.size + 1 + 1 + 1, 0, none⟩)], .agg #[.int .i64 x.1, .int .i64 x.2], .func (.func 46) #[] #[.pointer (some ⟨p, 0, none⟩), .pointer (some ⟨q, 0, none⟩)], undef, undef, undef, undef, undef, undef, undef, undef, undef, undef, undef, undef, undef, undef, undef, undef, undef, undef, undef, undef], defers := [] } ∧
      w2.heap.size + 4 ≤ p8 ∧ W.heap[p8]? = some (.cells #[.int .i64 x.1, .int .i64 x.2] 43 (0, 0)) ∧ W.cell? ⟨p, 0, none⟩ = some (.int .i64 (ix (weightsZ xs) x.1)) ∧ W.cell? ⟨q, 0, none⟩ = some (.int .i64 (ix (weightsZ zs) x.2)))
    ?hAx ?assign ?body ?done (fun _ _ _ _ h => h.elim)
  case hY0 =>
    intro k hk
    rcases hk with rfl | ⟨i, hi, e⟩
    · simp; omega
    · rw [List.length_replicate] at hi
      simp [vx, List.getD, List.getElem?_replicate, hi, Value.ownBlock] at e
  case start =>
    have hb := HB2.out
    have h0 := ORows.new w2 (weightsZ xs).length (w2.heap.size + 4) (by omega)
    rw [show (List.replicate (weightsZ xs).length (Value.slice none 0 0)).toArray = Array.replicate xs.length (.slice none 0 0) by rw [HWL.out]; rfl] at h0
    refine ⟨⟨List.replicate (weightsZ xs).length (.slice none 0 0), ?_, fun k => Iff.rfl⟩, by repeat' (first | (with_reducible exact Below.refl _ _) | (with_reducible assumption) | (refine below_step (by assumption) ?_ ?_) | (with_reducible refine below_drewN ?_ _) | (with_reducible refine Below.drew ?_) | (with_reducible refine Below.alloc ?_ ?_ _) | (with_reducible refine Below.setCell ?_ ?_ _) | go_size), by simp [go_sem], by simp, by omega⟩
    rw [gridT_zero]
    refine h0.of_blocks (fun k hk => ?_)
    have := (h0.in k hk).2.1
    exact Below.block (B := (w2.alloc (Obj.cells (Array.replicate xs.length (Value.slice none 0 0)) 22)).heap.size) (by repeat' (first | (with_reducible exact Below.refl _ _) | (with_reducible assumption) | (refine below_step (by assumption) ?_ ?_) | (with_reducible refine below_drewN ?_ _) | (with_reducible refine Below.drew ?_) | (with_reducible refine Below.alloc ?_ ?_ _) | (with_reducible refine Below.setCell ?_ ?_ _) | go_size)) k this
  case hH =>
    intro W Z hB hZ
    have hs := hB.size
    simp only [World.size_alloc] at hs
    have hzk : ∀ k, Z k → k = w2.heap.size ∨ w2.heap.size + 4 ≤ k := fun k hk => by
      rcases hZ k hk with h | h
      · rcases h with h | ⟨i, hi, e⟩
        · exact .inl h
        · rw [List.length_replicate] at hi
          simp [vx, List.getD, List.getElem?_replicate, hi, Value.ownBlock] at e
      · right; simpa using h
    refine ⟨⟨?_, by omega, fun h => by have := hzk _ h; omega, g1, 0, rfl, by omega, fun h => by have := hzk _ h; omega, fun j hj => ?_⟩, ⟨?_, by omega, fun h => by have := hzk _ h; omega, g2, 0, rfl, by omega, fun h => by have := hzk _ h; omega, fun j hj => ?_⟩⟩
    · rw [hB.cell (by simp)]; simp [go_sem]
    · rw [hB.cell (by simp; omega), Nat.zero_add]
      rw [← HA1.out.cell hj]
      exact Below.cell (B := w2.heap.size) (w := w2) (p := ⟨g1, j, none⟩) (by repeat' (first | (with_reducible exact Below.refl _ _) | (with_reducible assumption) | (refine below_step (by assumption) ?_ ?_) | (with_reducible refine below_drewN ?_ _) | (with_reducible refine Below.drew ?_) | (with_reducible refine Below.alloc ?_ ?_ _) | (with_reducible refine Below.setCell ?_ ?_ _) | go_size)) hl1
    · rw [hB.cell (by simp)]; simp [go_sem]
    · rw [hB.cell (by simp; omega), Nat.zero_add]
      rw [← HA2.out.cell hj]
      exact Below.cell (B := w2.heap.size) (w := w2) (p := ⟨g2, j, none⟩) (by repeat' (first | (with_reducible exact Below.refl _ _) | (with_reducible assumption) | (refine below_step (by assumption) ?_ ?_) | (with_reducible refine below_drewN ?_ _) | (with_reducible refine Below.drew ?_) | (with_reducible refine Below.alloc ?_ ?_ _) | (with_reducible refine Below.setCell ?_ ?_ _) | go_size)) hl2
  case hAx =>
    rintro x a' A B ⟨p8, p, q, rfl, h0, h1, h2, h3⟩ hk
    have e8 := hk p8 (Array.getElem?_eq_some_iff.1 h1).1 ⟨_, _, _, h1⟩
    obtain ⟨c1, e1, f1, hp⟩ := cell_block h2
    obtain ⟨c2, e2, f2, hq⟩ := cell_block h3
    have ep := hk p (Array.getElem?_eq_some_iff.1 hp).1 ⟨_, _, _, hp⟩
    have eq := hk q (Array.getElem?_eq_some_iff.1 hq).1 ⟨_, _, _, hq⟩
    exact ⟨p8, p, q, rfl, h0, e8.trans h1, (World.cell?_of_block ep).trans h2, (World.cell?_of_block eq).trans h3⟩
  case assign =>
    rintro l i x Y W vs K hx hI hlt ⟨p, q, rfl, hp, hq⟩ hK
    have hz := hI.size
    have HK := Lib.hid hK
    have HI := Lib.hid hI
    have HP := Lib.hid hp
    have HQ := Lib.hid hq
    clear hK hI hlt hp hq
    gi_wp2
    exact HK.out _ _ (by go_grown) ⟨_, _, _, rfl, hz, heap_alloc_new W _, cell_later (Below.alloc (Below.refl _ _) (Nat.le_refl _) _) HP.out, cell_later (Below.alloc (Below.refl _ _) (Nat.le_refl _) _) HQ.out⟩
  case body =>
    rintro l t ⟨i, k⟩ a' Y W hl ⟨r, hr⟩ hx hI hlt ⟨p8, p, q, rfl, hp8, hc8, hcp, hcq⟩
    obtain ⟨hi, hk, ht⟩ := pairsL_at hx
    obtain ⟨⟨vs, ho, hY⟩, hbe, hbx, hsz, hlo⟩ := hI
    simp only at hi hk ht hc8 hcp hcq
    have hix : i < xs.length := by have := HWL.out; omega
    have p0 : W.cell? ⟨p8, 0, none⟩ = some (.int .i64 i) := by rw [cell_of_row W p8 0 _ _ _ hc8]; rfl
    have g0 := ho.cell (i := i) (by rw [gridT_length]; exact hi)
    have f0 := ho.free i
    obtain rfl : Y = YR w2.heap.size vs := funext fun k => propext (hY k)
    have HO := Lib.hid ho
    have hrow : ∀ b, (vx vs i).ownBlock = some b → w2.heap.size + 4 ≤ b ∧ b < W.heap.size ∧ b ≠ p8 := by
      intro b hb
      have hei := HO.out.each i (by rw [gridT_length]; exact hi)
      obtain ⟨_, _, _, _, _, _, _, hbb⟩ := hei.form
      obtain ⟨cs, hcs⟩ := hei.kind hb
      refine ⟨(hbb b hb).1, (hbb b hb).2, fun e => ?_⟩
      rw [e, hc8] at hcs
      simp at hcs
    have HR := Lib.hid hrow
    clear hrow
    have HT := Lib.hid ht
    have HBE := Lib.hid hbe
    have HC8 := Lib.hid hc8
    clear ho hY ht hbe hlt hx hr hl hc8
    gi_wp2_with ((first | refine ⟨trivial, fun h => wide_depth h, ?_⟩ | refine ⟨trivial, ?_⟩); gi_at_call 46; (with_reducible refine (CallsIn.inRound _ (callsIn_wide.2 (both_any' _ _ _ _ _ hcp hcq))).mono ?_); rintro e w' ⟨rfl, nq, rfl⟩)
    (refine region_held_round (fun w' => w'.cell? ⟨w2.heap.size + 1, 0, none⟩ = some (.slice (some ⟨w2.heap.size, 0, none⟩) xs.length xs.length) ∧ w'.cell? ⟨p8, 0, none⟩ = some (.int .i64 i) ∧ w'.cell? ⟨w2.heap.size, i, none⟩ = some (vx vs i)) l 11 (by kernel_rfl) (by kernel_rfl) (by kernel_rfl) ⟨hbx, p0, g0⟩ ?_)
    intro K hK
    simp only [List.take_succ_cons, List.take_zero, List.drop_succ_cons, List.drop_zero]
    refine ⟨.slice (some ⟨w2.heap.size, 0, none⟩) xs.length xs.length, Or.inl ⟨by rfl, fun w' hS => ?_⟩, ?_⟩; (· obtain ⟨s1, s2, s3⟩ := hS; go_simp); try simp only [Act.put, List.setIfInBounds_toArray, List.set_cons_zero, List.set_cons_succ]
    refine ⟨.pointer (some ⟨p8, 0, none⟩), Or.inl ⟨by rfl, fun w' hS => ?_⟩, ?_⟩; (· obtain ⟨s1, s2, s3⟩ := hS; go_simp); try simp only [Act.put, List.setIfInBounds_toArray, List.set_cons_zero, List.set_cons_succ]
    refine ⟨.int .i64 i, Or.inl ⟨by rfl, fun w' hS => ?_⟩, ?_⟩; (· obtain ⟨s1, s2, s3⟩ := hS; go_simp); try simp only [Act.put, List.setIfInBounds_toArray, List.set_cons_zero, List.set_cons_succ]
    refine ⟨.slice (some ⟨w2.heap.size, 0, none⟩) xs.length xs.length, Or.inl ⟨by rfl, fun w' hS => ?_⟩, ?_⟩; (· obtain ⟨s1, s2, s3⟩ := hS; go_simp); try simp only [Act.put, List.setIfInBounds_toArray, List.set_cons_zero, List.set_cons_succ]
    refine ⟨.pointer (some ⟨p8, 0, none⟩), Or.inl ⟨by rfl, fun w' hS => ?_⟩, ?_⟩; (· obtain ⟨s1, s2, s3⟩ := hS; go_simp); try simp only [Act.put, List.setIfInBounds_toArray, List.set_cons_zero, List.set_cons_succ]
    refine ⟨.int .i64 i, Or.inl ⟨by rfl, fun w' hS => ?_⟩, ?_⟩; (· obtain ⟨s1, s2, s3⟩ := hS; go_simp); try simp only [Act.put, List.setIfInBounds_toArray, List.set_cons_zero, List.set_cons_succ]
    refine ⟨.pointer (some ⟨w2.heap.size, i, none⟩), Or.inl ⟨by rfl, fun w' hS => ?_⟩, ?_⟩; (· obtain ⟨s1, s2, s3⟩ := hS; go_simp); try simp only [Act.put, List.setIfInBounds_toArray, List.set_cons_zero, List.set_cons_succ]
    refine ⟨vx vs i, Or.inl ⟨by rfl, fun w' hS => ?_⟩, ?_⟩; (· obtain ⟨s1, s2, s3⟩ := hS; go_simp); try simp only [Act.put, List.setIfInBounds_toArray, List.set_cons_zero, List.set_cons_succ]
    refine ⟨.int .i64 (ix (weightsZ xs) i), Or.inl ⟨by rfl, fun w' hS => ?_⟩, ?_⟩; (· obtain ⟨s1, s2, s3⟩ := hS; go_simp); try simp only [Act.put, List.setIfInBounds_toArray, List.set_cons_zero, List.set_cons_succ]
    refine ⟨.int .i64 (ix (weightsZ zs) k), Or.inl ⟨by rfl, fun w' hS => ?_⟩, ?_⟩; (· obtain ⟨s1, s2, s3⟩ := hS; go_simp); try simp only [Act.put, List.setIfInBounds_toArray, List.set_cons_zero, List.set_cons_succ]
    refine ⟨.int .i64 (IntKind.i64.wrap (ix (weightsZ xs) i * ix (weightsZ zs) k)), Or.inl ⟨by rfl, fun w' hS => ?_⟩, ?_⟩; (· obtain ⟨s1, s2, s3⟩ := hS; go_simp); try simp only [Act.put, List.setIfInBounds_toArray, List.set_cons_zero, List.set_cons_succ]
    refine wpTail_cons (fun K1 hK1 => ?_)
    go_simp
    refine hK1.out _ _ (fun _ => ⟨cell_later (by repeat' (first | (with_reducible exact Below.refl _ _) | (with_reducible assumption) | (refine below_step (by assumption) ?_ ?_) | (with_reducible refine below_drewN ?_ _) | (with_reducible refine Below.drew ?_) | (with_reducible refine Below.alloc ?_ ?_ _) | (with_reducible refine Below.setCell ?_ ?_ _) | go_size)) hbx, cell_later (by repeat' (first | (with_reducible exact Below.refl _ _) | (with_reducible assumption) | (refine below_step (by assumption) ?_ ?_) | (with_reducible refine below_drewN ?_ _) | (with_reducible refine Below.drew ?_) | (with_reducible refine Below.alloc ?_ ?_ _) | (with_reducible refine Below.setCell ?_ ?_ _) | go_size)) p0, cell_later (by repeat' (first | (with_reducible exact Below.refl _ _) | (with_reducible assumption) | (refine below_step (by assumption) ?_ ?_) | (with_reducible refine below_drewN ?_ _) | (with_reducible refine Below.drew ?_) | (with_reducible refine Below.alloc ?_ ?_ _) | (with_reducible refine Below.setCell ?_ ?_ _) | go_size)) g0⟩) ?_
    clear hK1 K1
    refine wpTail_cons (fun K2 hK2 => ?_)
    refine op_app2 rfl (.tmp 36) (.tmp 40) rfl (w2.heap.size + 4) (vx vs i) (rx (gridT (weightsZ xs) (weightsZ zs) t) i) rfl ((HO.out.each i (by rw [gridT_length]; exact hi)).kept (by repeat' (first | (with_reducible exact Below.refl _ _) | (with_reducible assumption) | (refine below_step (by assumption) ?_ ?_) | (with_reducible refine below_drewN ?_ _) | (with_reducible refine Below.drew ?_) | (with_reducible refine Below.alloc ?_ ?_ _) | (with_reducible refine Below.setCell ?_ ?_ _) | go_size)) (Nat.le_refl _)) _ 1 _ rfl (cell_new1 _ _ _) (by rw [gridT_row_length hi hk HT.out]; have := HUL.out; omega) (by simp [hsz_drewN]; omega) ?_
    intro v' W4 hown' hgrow hob
    obtain ⟨A4, c4, hv4, _⟩ := hown'.form
    obtain ⟨n4, hn4⟩ : ∃ n4, (rx (gridT (weightsZ xs) (weightsZ zs) t) i ++ [IntKind.i64.wrap (ix (weightsZ xs) i * ix (weightsZ zs) k)]).length = n4 := ⟨_, rfl⟩
    rw [hn4] at hv4
    subst hv4
    have k1 : W4.cell? ⟨w2.heap.size + 1, 0, none⟩ = some (.slice (some ⟨w2.heap.size, 0, none⟩) xs.length xs.length) := hgrow.cell (cell_later (by repeat' (first | (with_reducible exact Below.refl _ _) | (with_reducible assumption) | (refine below_step (by assumption) ?_ ?_) | (with_reducible refine below_drewN ?_ _) | (with_reducible refine Below.drew ?_) | (with_reducible refine Below.alloc ?_ ?_ _) | (with_reducible refine Below.setCell ?_ ?_ _) | go_size)) hbx) (fun e => by have := (HR.out _ e.symm).1; simp only at this; omega)
    have k2 : W4.cell? ⟨p8, 0, none⟩ = some (.int .i64 i) := hgrow.cell (cell_later (by repeat' (first | (with_reducible exact Below.refl _ _) | (with_reducible assumption) | (refine below_step (by assumption) ?_ ?_) | (with_reducible refine below_drewN ?_ _) | (with_reducible refine Below.drew ?_) | (with_reducible refine Below.alloc ?_ ?_ _) | (with_reducible refine Below.setCell ?_ ?_ _) | go_size)) p0) (fun e => by have := (HR.out _ e.symm).2.2; simp at this)
    have k3 : W4.cell? ⟨w2.heap.size, i, none⟩ = some (vx vs i) := hgrow.cell (cell_later (by repeat' (first | (with_reducible exact Below.refl _ _) | (with_reducible assumption) | (refine below_step (by assumption) ?_ ?_) | (with_reducible refine below_drewN ?_ _) | (with_reducible refine Below.drew ?_) | (with_reducible refine Below.alloc ?_ ?_ _) | (with_reducible refine Below.setCell ?_ ?_ _) | go_size)) g0) (fun e => by have := (HR.out _ e.symm).1; simp only at this; omega)
    have hG : w2.heap.size < W.heap.size := by omega
    have k4 : W4.frozen? ⟨w2.heap.size, i, none⟩ = false := (World.frozen?_of_block (hgrow.block w2.heap.size (by simp [hsz_drewN]; omega) (fun e => by have := (HR.out _ e.symm).1; omega))).trans ((World.frozen?_of_block (Below.block (B := W.heap.size) (w := W) (by repeat' (first | (with_reducible exact Below.refl _ _) | (with_reducible assumption) | (refine below_step (by assumption) ?_ ?_) | (with_reducible refine below_drewN ?_ _) | (with_reducible refine Below.drew ?_) | (with_reducible refine Below.alloc ?_ ?_ _) | (with_reducible refine Below.setCell ?_ ?_ _) | go_size)) w2.heap.size hG)).trans f0)
    have hfin := HO.out.put_round (by repeat' (first | (with_reducible exact Below.refl _ _) | (with_reducible assumption) | (refine below_step (by assumption) ?_ ?_) | (with_reducible refine below_drewN ?_ _) | (with_reducible refine Below.drew ?_) | (with_reducible refine Below.alloc ?_ ?_ _) | (with_reducible refine Below.setCell ?_ ?_ _) | go_size)) (i := i) (by rw [gridT_length]; exact hi) hsz hgrow hown' hob
    have HF := Lib.hid hfin
    clear hfin hgrow hob hown'
    refine hK2.out _ _ (fun _ => ⟨k1, k2, k3⟩) ?_
    clear hK2 K2
    refine wpTail_cons (fun K3 hK3 => ?_)
    go_simp
    refine hK3.out _ _ (fun _ => ⟨k1, k2, k3⟩) ?_
    clear hK3 K3
    refine wpTail_cons (fun K4 hK4 => ?_)
    go_simp
    refine hK4.out _ _ (fun h => absurd rfl h) ?_
    clear hK4 K4
    refine ⟨rfl, hK.out _ _ ?_⟩
    gi_wp2
    obtain ⟨hro, hrr⟩ := HF.out
    refine ⟨YR w2.heap.size (vs.set i _), ⟨⟨_, by rw [gridT_succ hi hk HT.out]; exact hro, fun k => Iff.rfl⟩, hrr.below HBE.out (fun b hb => by have := (HO.out.in b hb).1; omega) (by omega), (hrr.cell (p := ⟨w2.heap.size + 1, 0, none⟩) (by show w2.heap.size + 1 < _; omega) (fun hb => by have := (HO.out.in _ hb).2.2; simp only at this; omega)).trans hbx, by have := hrr.size; omega, hlo⟩, hrr⟩
  case done =>
    intro Y W hI hD
    obtain ⟨⟨vs, ho, hY⟩, hbe, hbx, hsz, hlo⟩ := hI
    obtain rfl : Y = YR w2.heap.size vs := funext fun k => propext (hY k)
    have HO := Lib.hid ho
    have HBE := Lib.hid hbe
    have HD := Lib.hid hD
    clear ho hbe hD hY
    gi_wp2
    refine ⟨by simp, .inl ⟨_, _, rfl, run_takeDeferred HD.out, ?_⟩⟩
    simp only [World.size_alloc] at HD ⊢
    have hl : (gridZ xs zs).length = xs.length := (gridT_length _ _ _).trans HWL.out
    have hne : ∀ k, YR w2.heap.size vs k → k ≠ w2.heap.size + 1 + 1 + 1 + 1 := fun k hk e => by
      rcases hk with h | ⟨i, hi, e2⟩
      · omega
      · obtain ⟨cs, hcs⟩ := (HO.out.each i (by rw [← HO.out.len]; exact hi)).kind e2
        rw [e, HD.out] at hcs
        cases hcs
    refine ⟨_, results_tmp rfl _ _ _, w2.heap.size, w2.heap.size + 4, vs, by rw [hl]; rfl, hlo, ?_, ?_⟩
    · have h := HO.out.of_blocks (w' := W.putObj (w2.heap.size + 1 + 1 + 1 + 1) (.deferred none)) (fun k hk => World.putObj_heap_other (hne k hk))
      rw [pairsL_length] at h
      exact h
    · exact ((Keep.refl (w2.heap.size + 4) (YR w2.heap.size vs) W).putObj (l := w2.heap.size + 1 + 1 + 1 + 1) (by omega) (fun h => hne _ h rfl) (.deferred none)).below (by omega) HBE.out (by omega)

end Go.Proofs.YtdlmdaononclgaaDoor
