import Derived.Test.YtdlmdaononclgaaDoorMD
import Derived.Test.YtdlmdaononclgaaDoorMB
/- The iterator over all pairs of elements, with their indices. -/
namespace Go.Proofs.YtdlmdaononclgaaDoor
open Go.RowKit
set_option linter.unusedVariables false
set_option linter.unusedSimpArgs false
attribute [local go_sem] Oper.semAt_some

/-- all pairs of indices, in order. -/
def pairsL (n m : Nat) : List (Nat × Nat) := (List.range (n * m)).map fun t => (t / m, t % m)
theorem pairsL_length (n m : Nat) : (pairsL n m).length = n * m := by simp [pairsL]
theorem pairsL_get {n m i k : Nat} (hi : i < n) (hk : k < m) : (pairsL n m)[i * m + k]? = some (i, k) := by
  have h : i * m + k < n * m := by
    have := Nat.mul_le_mul_right m (by omega : i + 1 ≤ n)
    rw [Nat.succ_mul] at this
    omega
  have e1 : (i * m + k) / m = i := by rw [Nat.mul_comm, Nat.mul_add_div (by omega), Nat.div_eq_of_lt hk]; rfl
  have e2 : (i * m + k) % m = k := by rw [Nat.mul_comm, Nat.mul_add_mod, Nat.mod_eq_of_lt hk]
  simp [pairsL, List.getElem?_range h, e1, e2]
theorem pairsL_at {n m t : Nat} {x : Nat × Nat} (h : (pairsL n m)[t]? = some x) : x.1 < n ∧ x.2 < m ∧ t = x.1 * m + x.2 := by
  have hl := (List.getElem?_eq_some_iff.1 h).1
  rw [pairsL_length] at hl
  simp only [pairsL, List.getElem?_map, List.getElem?_range hl, Option.map_some, Option.some.injEq] at h
  subst h
  have hm : 0 < m := Nat.pos_of_ne_zero (fun e => by subst e; simp at hl)
  exact ⟨Nat.div_lt_of_lt_mul (by rw [Nat.mul_comm]; exact hl), Nat.mod_lt _ hm, by rw [Nat.mul_comm]; exact (Nat.div_add_mod t m).symm⟩

/-- what is yielded: the indices, and a function over two cells that hold the elements. -/
def PE (xs zs : List Int) (x : Nat × Nat) (W : World) (vs : Array Value) : Prop :=
  ∃ p q, vs = #[.agg #[.int .i64 x.1, .int .i64 x.2], .func (.func 46) #[] #[.pointer (some ⟨p, 0, none⟩), .pointer (some ⟨q, 0, none⟩)]] ∧
    W.cell? ⟨p, 0, none⟩ = some (.int .i64 (ix xs x.1)) ∧ W.cell? ⟨q, 0, none⟩ = some (.int .i64 (ix zs x.2))

theorem pairs_any (v1 v2 : Value) (A : Option Addr) (n c : Nat) (A2 : Option Addr) (n2 c2 : Nat) (w : World) (h1 : v1 = .slice A n c) (h2 : v2 = .slice A2 n2 c2) :
    Calls Tryd.prog 21 #[v1, v2] w fun e w' => e = .returned (.func (.func 45) #[] #[.pointer (some ⟨w.heap.size, 0, none⟩), .pointer (some ⟨w.heap.size + 1, 0, none⟩)]) ∧ w' = (w.alloc (.cells #[v1] 22)).alloc (.cells #[v2] 22) := by
  have hmf : ∀ (fn : Fn) (first cap : Array Value) (w : World), (Instr.makeFunc fn first cap).run Tryd.prog w = .ok (.func fn first cap) w := fun _ _ _ _ => rfl
  subst h1; subst h2
  go_enter Tryd.func21, Tryd.ntmps21
  go_wp2
  go_ret
  exact ⟨rfl, rfl⟩

theorem both_any' (p q : Nat) (x y : Int) (w : World) (hx : w.cell? ⟨p, 0, none⟩ = some (.int .i64 x)) (hy : w.cell? ⟨q, 0, none⟩ = some (.int .i64 y)) :
    Calls Tryd.prog 46 #[.pointer (some ⟨p, 0, none⟩), .pointer (some ⟨q, 0, none⟩)] w fun e w' => e = .returned (.tuple #[.int .i64 x, .int .i64 y]) ∧ ∃ k, w' = w.drewN k := by
  go_enter Tryd.func46, Tryd.ntmps46
  go_wp2
  go_quiet (fail)
  go_wp2
  go_returns
  exact ⟨rfl, _, rfl⟩

/-- what holds between two yields, of the iterator's own. -/
structure PI (J : Nat → (Nat → Prop) → World → Prop) (W : World) (ks : Nat → Prop) (t : Nat) (Y : Nat → Prop) (wr : World) : Prop where
  j : J t Y wr
  lt : ∀ k, Y k → k < wr.heap.size
  no : ∀ k, ks k → ¬ Y k ∧ wr.heap[k]? = W.heap[k]?
  size : W.heap.size ≤ wr.heap.size
theorem PI.keep {J : Nat → (Nat → Prop) → World → Prop} {W : World} {ks : Nat → Prop} {t : Nat} {Y : Nat → Prop} {A B : World} (h : PI J W ks t Y A) (hJ : ∀ i Y A B, J i Y A → Keep W.heap.size Y A B → J i Y B) (hks : ∀ k, ks k → k < W.heap.size)
    (hk : Keep W.heap.size Y A B) : PI J W ks t Y B :=
  ⟨hJ _ _ _ _ h.j hk, fun k hy => Nat.lt_of_lt_of_le (h.lt k hy) hk.size, fun k hy => ⟨(h.no k hy).1, (hk.block k (Nat.lt_of_lt_of_le (hks k hy) h.size) (.inl (hks k hy))).trans (h.no k hy).2⟩, Nat.le_trans h.size hk.size⟩
theorem PI.next {J : Nat → (Nat → Prop) → World → Prop} {W : World} {ks : Nat → Prop} {t l : Nat} {Y Y' : Nat → Prop} {A B : World} (h : PI J W ks t Y A) (hks : ∀ k, ks k → k < W.heap.size ∧ k ≠ l)
    (hj : J (t + 1) Y' B) (hr : Round (orL Y l) (orL Y' l) A B) : PI J W ks (t + 1) Y' B := by
  refine ⟨hj, fun k hy => hr.lt k (.inl hy), fun k hk => ?_, Nat.le_trans h.size hr.size⟩
  have hlt := Nat.lt_of_lt_of_le (hks k hk).1 h.size
  have hn : ¬ orL Y l k := fun e => e.elim (h.no k hk).1 (hks k hk).2
  exact ⟨fun e => (hr.out hlt hn) (.inl e), (hr.block k hlt hn).trans (h.no k hk).2⟩

set_option maxHeartbeats 2000000 in
set_option maxRecDepth 4000 in
theorem pairs1_yields (n : Nat) (qa qb : Nat) (xs zs : List Int) (A : Option Addr) (c : Nat) (A2 : Option Addr) (c2 : Nat) (hc : xs.length ≤ c) (hm : c ≤ 9223372036854775807) (hc2 : zs.length ≤ c2) (hm2 : c2 ≤ 9223372036854775807) (hx9 : xs.length ≤ 1000000) (hz9 : zs.length ≤ 1000000) :
    YieldsE Fence.wide n Tryd.prog 45 #[.pointer (some ⟨qa, 0, none⟩), .pointer (some ⟨qb, 0, none⟩)] (PE xs zs) (pairsL xs.length zs.length) (fun Y W => HG qa xs A c Y W ∧ HG qb zs A2 c2 Y W) := by
  intro l J Jx Y W hJ hJx hY hYlt hlW ⟨hHa, hHb⟩ h0
  obtain ⟨hboxa, hqa, hqaY, b1, off1, rfl, hb1, hb1Y, hcell1⟩ := hHa
  obtain ⟨hboxb, hqb, hqbY, b2, off2, rfl, hb2, hb2Y, hcell2⟩ := hHb
  have hmf : ∀ (fn : Fn) (first cap : Array Value) (w : World), (Instr.makeFunc fn first cap).run Tryd.prog w = .ok (.func fn first cap) w := fun _ _ _ _ => rfl
  have hks : ∀ k, (k = qa ∨ k = qb ∨ k = b1 ∨ k = b2) → k < W.heap.size ∧ k ≠ l := by
    rintro k (rfl | rfl | rfl | rfl)
    · exact ⟨hqa, fun e => hqaY (.inr e)⟩
    · exact ⟨hqb, fun e => hqbY (.inr e)⟩
    · exact ⟨hb1, fun e => hb1Y (.inr e)⟩
    · exact ⟨hb2, fun e => hb2Y (.inr e)⟩
  have h0' : PI J W (fun k => k = qa ∨ k = qb ∨ k = b1 ∨ k = b2) 0 Y W := ⟨h0, hYlt, fun k hk => ⟨fun hy => by rcases hk with rfl | rfl | rfl | rfl; exact hqaY (.inl hy); exact hqbY (.inl hy); exact hb1Y (.inl hy); exact hb2Y (.inl hy), rfl⟩, Nat.le_refl _⟩
  have HKS := Lib.hid hks
  have H0 := Lib.hid h0'
  have HC1 := Lib.hid hcell1
  have HC2 := Lib.hid hcell2
  have HJ := Lib.hid hJ
  have HY := Lib.hid hY
  have HBB := Lib.hid hboxb
  clear hks h0' hcell1 hcell2 hJ hJx hY h0 hYlt hqaY hqbY hb1Y hb2Y hboxb
  refine callsIn_of_wp Tryd.func45 rfl trivial ?_ rfl
  simp only [Tryd.ntmps45, List.size_toArray, List.length_cons, List.length_nil, Nat.reduceAdd, Nat.reduceSub, Array.replicate_succ, Array.replicate_zero, List.push_toArray, List.append_toArray, List.nil_append, List.cons_append]
  gi_wp2
  gi_loopw [10] (fun v wr => ∃ (i : Nat) (Y' : Nat → Prop), v = .int .i64 i ∧ i ≤ xs.length ∧ PI J W (fun k => k = qa ∨ k = qb ∨ k = b1 ∨ k = b2) (i * zs.length) Y' wr)
    (fun v _ => xs.length - (intOf v).toNat)
  case atStart => exact ⟨0, Y, rfl, by omega, by rw [Nat.zero_mul]; exact H0.out⟩
  case round =>
    obtain ⟨i, Yo, rfl, hi9, hpo⟩ := hrel
    by_cases hi : i < xs.length
    · have y0 : wr.cell? ⟨b1, off1 + i, none⟩ = some (.int .i64 (ix xs i)) := (World.cell?_of_block (hpo.no b1 (.inr (.inr (.inl rfl)))).2).trans (HC1.out i hi)
      have y1 : wr.cell? ⟨qb, 0, none⟩ = some (.slice (some ⟨b2, off2, none⟩) zs.length c2) := (World.cell?_of_block (hpo.no qb (.inr (.inl rfl))).2).trans HBB.out
      have hws := hpo.size
      have hqb' : qb < wr.heap.size := by omega
      have hb2' : b2 < wr.heap.size := by omega
      have HPO := Lib.hid hpo
      clear hpo
      obtain ⟨wo, rfl⟩ : ∃ wo : World, wo = wr := ⟨_, rfl⟩
      gi_wp2
      gi_loopw [17] (fun v wr => ∃ (k : Nat) (Y' : Nat → Prop), v = .int .i64 k ∧ k ≤ zs.length ∧ PI J W (fun k => k = qa ∨ k = qb ∨ k = b1 ∨ k = b2) (i * zs.length + k) Y' wr ∧ ¬ Y' wo.heap.size ∧ wo.heap.size < wr.heap.size ∧ wr.cell? ⟨wo.heap.size, 0, none⟩ = some (.int .i64 (ix xs i)))
        (fun v _ => zs.length - (intOf v).toNat)
      case atStart =>
        have hk0 := HPO.out.keep HJ.out (fun k hk => (HKS.out k hk).1) ((Keep.refl _ _ _).alloc (.cells #[Value.int IntKind.i64 (ix xs i)] 3))
        exact ⟨0, Yo, rfl, Nat.zero_le _, hk0, fun h => by have := HPO.out.lt _ h; omega, by simp, cell_new1 _ _ _⟩
      case round =>
        obtain ⟨k, Yi, rfl, hk9, hpi, hyn, hlt, hcx⟩ := hrel
        by_cases hk : k < zs.length
        · have z0 : wr.cell? ⟨b2, off2 + k, none⟩ = some (.int .i64 (ix zs k)) := (World.cell?_of_block (hpi.no b2 (.inr (.inr (.inr rfl)))).2).trans (HC2.out k hk)
          have HPI := Lib.hid hpi
          clear hpi
          gi_wp2_with fail
          have hk1 := HPI.out.keep HJ.out (fun k hk => (HKS.out k hk).1) ((Keep.refl _ _ _).alloc (.cells #[Value.int IntKind.i64 (ix zs k)] 3))
          have HK1 := Lib.hid hk1
          clear hk1
          obtain ⟨fn, tmps, assign, body, hy, hR⟩ := HY.out _ (i, k) Yi (wr.alloc (.cells #[Value.int IntKind.i64 (ix zs k)] 3)) _ (pairsL_get hi hk) HK1.out.j HK1.out.lt ⟨wo.heap.size, wr.heap.size, rfl, (cell_later (Below.alloc (Below.refl _ _) (Nat.le_refl _) _) hcx), cell_new1 _ _ _⟩
          go_simp
          refine ⟨fun h => absurd h (by simp [Fence.wide]), hR.mono ?_⟩
          rintro e W3 (⟨rfl, Y3, hj3, hr3⟩ | ⟨rfl, Y3, hjx3⟩)
          · have hn3 := HK1.out.next HKS.out hj3 hr3
            have nlo : ¬ orL Yi l wo.heap.size := fun h => h.elim hyn (fun h => by omega)
            have hl3 : wo.heap.size < (wr.alloc (.cells #[Value.int IntKind.i64 (ix zs k)] 3)).heap.size := by simp; omega
            have co := hr3.out hl3 nlo
            have cc := (hr3.cell (p := ⟨wo.heap.size, 0, none⟩) hl3 nlo).trans (cell_later (Below.alloc (Below.refl _ _) (Nat.le_refl _) _) hcx)
            have hs3 := hr3.size
            rw [World.size_alloc] at hs3
            have hls : wo.heap.size < W3.heap.size := by omega
            have HN3 := Lib.hid hn3
            have HCO := Lib.hid co
            have HCC := Lib.hid cc
            clear hn3 co cc hr3 hj3 hy hR nlo hl3
            gi_wp2
            go_roundw
            case rel => exact ⟨k + 1, Y3, by first | rfl | go_num, by omega, HN3.out, fun h => HCO.out (.inl h), hls, HCC.out⟩
            case measure => simp [intOf]; omega
          · gi_wp2
            refine bodyPost_ret (results_none rfl _ _ _) rfl ?_
            exact ⟨⟨_, rfl⟩, .inr ⟨_, _, hjx3⟩⟩
        · have ek : k = zs.length := by omega
          subst ek
          have HPI := Lib.hid hpi
          clear hpi
          gi_wp2
          go_roundw
          case rel => exact ⟨i + 1, Yi, by first | rfl | go_num, by omega, by rw [Nat.succ_mul]; exact HPI.out⟩
          case measure => simp [intOf]; omega
    · have ei : i = xs.length := by omega
      subst ei
      have HPO := Lib.hid hpo
      clear hpo
      gi_wp2
      go_end0
      exact ⟨⟨_, rfl⟩, .inl ⟨Yo, by rw [pairsL_length]; exact HPO.out.j⟩⟩

end Go.Proofs.YtdlmdaononclgaaDoor
