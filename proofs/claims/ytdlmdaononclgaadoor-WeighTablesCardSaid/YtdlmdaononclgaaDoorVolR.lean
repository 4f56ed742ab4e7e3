import Derived.Test.YtdlmdaononclgaaDoorGridR
import Derived.Test.YtdlmdaononclgaaDoorVolP2
import Derived.Deep.Cut
import Derived.Deep.CutRange
import Derived.Outline
/- SameRows; the reference's Volume, down and Litres; the program's Litres. -/
namespace Go.Proofs.YtdlmdaononclgaaDoor
open Go.RowKit
set_option linter.unusedVariables false
set_option linter.unusedSimpArgs false

set_option maxHeartbeats 1000000 in
/-- SameRows at two readings of the same rows. -/
theorem SameRows_same {rs : List (List Int)} {n : Nat} (hn : rs.length = n) (A : Option Addr) (c : Nat) (A2 : Option Addr) (c2 : Nat) (vs us : List Value) (hc : n ≤ c) (hm : c ≤ 9223372036854775807) (hc2 : n ≤ c2) (hm2 : c2 ≤ 9223372036854775807) (w : World) (h : RR w w.heap.size A vs rs) (h2 : RR w w.heap.size A2 us rs) :
    Calls Tryd.prog 12 #[.slice A n c, .slice A2 n c2] w fun e w' => e = .returned (.bool true) ∧ Below w.heap.size w w' := by
  have H1 := Lib.hid h
  have H2 := Lib.hid h2
  have HN := Lib.hid hn
  clear h h2 hn
  go_enter Tryd.func12, Tryd.ntmps12
  go_wp2
  go_loopw [5] (fun v wr => ∃ k : Nat, k ≤ n ∧ v = .int .i64 k ∧ Below w.heap.size w wr) (fun v _ => n - (intOf v).toNat)
  case atStart => exact ⟨0, by omega, rfl, Below.refl _ _⟩
  case round =>
    obtain ⟨k, hk, rfl, hB⟩ := hrel
    have HB := Lib.hid hB
    clear hB
    by_cases hk' : k < n
    · obtain ⟨b, off, rfl, hb, hcell⟩ := H1.out.cells (by have := HN.out; omega)
      obtain ⟨b2, off2, rfl, hb2, hcell2⟩ := H2.out.cells (by have := HN.out; omega)
      have y0 := cell_later HB.out (hcell k (by have := HN.out; omega))
      have z0 := cell_later HB.out (hcell2 k (by have := HN.out; omega))
      obtain ⟨Ai, ci, e1, h11, h12, h13⟩ := H1.out.each k (by have := HN.out; omega)
      obtain ⟨Aj, cj, e2, h21, h22, h23⟩ := H2.out.each k (by have := HN.out; omega)
      rw [e1] at y0
      rw [e2] at z0
      have hB := HB.out
      have SI : Hid (∀ W, Below wr.heap.size wr W → Calls Tryd.prog 30 #[.slice Ai (rx rs k).length ci, .slice Aj (rx rs k).length cj] W fun e w' => e = .returned (.bool true) ∧ ∃ k, w' = W.drewN k) := Lib.hid (fun W hW => SameInts_is (decide_eq_true rfl) Ai ci Aj cj h11 h12 h21 h22 W (h13.keep (below_step hW hB hB.size) (Nat.le_refl _)) (h23.keep (below_step hW hB hB.size) (Nat.le_refl _)))
      obtain ⟨li, hli⟩ : ∃ l, (rx rs k).length = l := ⟨_, rfl⟩
      rw [hli] at y0 z0 SI
      clear hcell hcell2 e1 e2 h11 h12 h13 h21 h22 h23 hli hB
      go_upto_region 6 with fail
      have K1 := Kd.cell y0
      have K2 := Kd.cell z0
      refine region_kept (by kernel_rfl) (by kernel_rfl) ?_
      repeat (go_big_quiet_step ((go_at_call 30; exact kept_drew (SI.out _ (Kd.ok _)))))
      refine wpQuiet_nil ?_
      rintro W6 ⟨kk, hkk⟩
      have B6 := Lib.hid (show Below wr.heap.size wr W6 from hkk ▸ kk.ok)
      clear hkk kk K1 K2 y0 z0
      go_wp2
      go_roundw
      case rel => exact ⟨k + 1, by omega, by go_num, below_step B6.out HB.out HB.out.size⟩
      case measure => simp [intOf]; omega
    · go_wp2
      go_ret
      exact ⟨rfl, HB.out⟩

/-- what Volume and Litres answer. -/
def volV (xs zs : List Int) (rs : List (List Int)) : Int := if tableB xs zs rs = true then volZ xs zs rs else 0
def litV (xs zs : List Int) (rs : List (List Int)) : Int := if tableB xs zs rs = true then litZ xs zs rs else 0
theorem Volume_any {xs zs : List Int} {rs : List (List Int)} (A1 : Option Addr) (c1 : Nat) (A2 : Option Addr) (c2 : Nat) (A3 : Option Addr) (c3 : Nat) (vs : List Value) (w : World) (h : TD w w.heap.size xs zs rs A1 c1 A2 c2 A3 c3 vs) :
    Calls Tryd.prog 6 #[.agg #[.slice A1 xs.length c1, .slice A2 zs.length c2, .slice A3 rs.length c3]] w fun e w' => e = .returned (.tuple #[.int .i64 (volV xs zs rs), .int .i64 (tabE xs zs rs)]) ∧ Below w.heap.size w w' := by
  unfold volV tabE
  cases hr : tableB xs zs rs with
  | true => exact Volume_yes hr A1 c1 A2 c2 A3 c3 vs w h
  | false => exact Volume_no hr A1 c1 A2 c2 A3 c3 vs w h
theorem vol_fits (xs zs : List Int) (rs : List (List Int)) : -300000000000000000 ≤ volV xs zs rs ∧ volV xs zs rs ≤ 300000000000000000 := by
  unfold volV
  split
  · rename_i h; exact (volZ_eq h).2
  · omega
theorem litV_eq (xs zs : List Int) (rs : List (List Int)) : volV xs zs rs / 1296000000 = litV xs zs rs := by
  unfold volV litV litZ
  split <;> rfl
theorem Litres_any {xs zs : List Int} {rs : List (List Int)} (A1 : Option Addr) (c1 : Nat) (A2 : Option Addr) (c2 : Nat) (A3 : Option Addr) (c3 : Nat) (vs : List Value) (w : World) (h : TD w w.heap.size xs zs rs A1 c1 A2 c2 A3 c3 vs) :
    Calls Tryd.prog 8 #[.agg #[.slice A1 xs.length c1, .slice A2 zs.length c2, .slice A3 rs.length c3]] w fun e w' => e = .returned (.tuple #[.int .i64 (litV xs zs rs), .int .i64 (tabE xs zs rs)]) ∧ Below w.heap.size w w' := by
  have C : Hid (∀ W, Below w.heap.size w W → Calls Tryd.prog 6 #[.agg #[.slice A1 xs.length c1, .slice A2 zs.length c2, .slice A3 rs.length c3]] W fun e w' => e = .returned (.tuple #[.int .i64 (volV xs zs rs), .int .i64 (tabE xs zs rs)]) ∧ Below W.heap.size W w') := Lib.hid (fun W hB => Volume_any A1 c1 A2 c2 A3 c3 vs W ((h.keep hB (Nat.le_refl _)).more hB.size))
  obtain ⟨f0, f1⟩ := vol_fits xs zs rs
  have hl := litV_eq xs zs rs
  obtain ⟨v, hv⟩ : ∃ v, volV xs zs rs = v := ⟨_, rfl⟩
  obtain ⟨e0, he⟩ : ∃ v, tabE xs zs rs = v := ⟨_, rfl⟩
  rw [hv] at f0 f1 hl
  rw [hv, he] at C
  rw [he, ← hl]
  have F : Hid (∀ W, Calls Tryd.prog 22 #[.int .i64 v, .int .i64 1296000000] W fun e w' => e = .returned (.int .i64 (v / 1296000000)) ∧ W = w') := Lib.hid (floor_any v 1296000000 (by omega) (by omega) (by omega) (by omega))
  clear hv he hl h
  go_enter Tryd.func8, Tryd.ntmps8
  go_wp2_with (first | (go_at_call 6; (with_reducible refine (C.out _ (Below.alloc (Below.refl _ _) (Nat.le_refl _) _)).mono ?_); rintro e w1 ⟨rfl, hb1⟩) | (go_at_call 22; (with_reducible refine (F.out _).mono ?_); rintro e w' ⟨rfl, rfl⟩))
  go_ret2
  exact ⟨rfl, below_step hb1 (Below.alloc (Below.refl _ _) (Nat.le_refl _) _) (by simp)⟩

theorem cells_box3 {W w1 : World} {a b c : Value} {t : TypeId} (hb : Below (W.alloc (.cells #[a, b, c] t)).heap.size (W.alloc (.cells #[a, b, c] t)) w1) : w1.cell? ⟨W.heap.size, 0, none⟩ = some a ∧ w1.cell? ⟨W.heap.size, 1, none⟩ = some b ∧ w1.cell? ⟨W.heap.size, 2, none⟩ = some c := by
  have h : w1.heap[W.heap.size]? = some (.cells #[a, b, c] t (0, 0)) := by rw [hb.block _ (by simp)]; exact heap_alloc_new W _
  refine ⟨?_, ?_, ?_⟩ <;> (rw [cell_of_row _ W.heap.size _ _ _ _ h]; rfl)
/-- the sum so far, over rows and places. -/
theorem volT_at (gs hs : List (List Int)) {m i k : Nat} (hk : k < m) : volT gs hs m (i * m + k + 1) = IntKind.i64.wrap (volT gs hs m (i * m + k) + IntKind.i64.wrap (IntKind.i64.wrap (2 * ix (rx gs i) k) * ix (rx hs i) k)) := volT_succ gs hs hk rfl

set_option maxHeartbeats 4000000 in
set_option maxRecDepth 10000 in
theorem refVolume_any {xs zs : List Int} {rs : List (List Int)} (A1 : Option Addr) (c1 : Nat) (A2 : Option Addr) (c2 : Nat) (A3 : Option Addr) (c3 : Nat) (vs : List Value) (w : World) (h : TD w w.heap.size xs zs rs A1 c1 A2 c2 A3 c3 vs) :
    Calls Tryd.prog 7 #[.agg #[.slice A1 xs.length c1, .slice A2 zs.length c2, .slice A3 rs.length c3]] w fun e w' => e = .returned (.tuple #[.int .i64 (volV xs zs rs), .int .i64 (tabE xs zs rs)]) ∧ Below w.heap.size w w' := by
  have C : Hid (∀ W, Below w.heap.size w W → Calls Tryd.prog 14 #[.agg #[.slice A1 xs.length c1, .slice A2 zs.length c2, .slice A3 rs.length c3]] W fun e w' => e = .returned (.int .i64 (tabE xs zs rs)) ∧ Below W.heap.size W w') := Lib.hid (fun W hB => refCheckTable_any A1 c1 A2 c2 A3 c3 vs W ((h.keep hB (Nat.le_refl _)).more hB.size))
  cases hr : tableB xs zs rs with
  | false =>
    have e1 : volV xs zs rs = 0 := by unfold volV; rw [hr]; rfl
    have e2 : tabE xs zs rs = 13 := by unfold tabE; rw [hr]; rfl
    rw [e1, e2]
    rw [e2] at C
    clear e1 e2 h hr
    go_enter Tryd.func7, Tryd.ntmps7
    go_wp2_with (go_at_call 14; (with_reducible refine (C.out _ (Below.alloc (Below.refl _ _) (Nat.le_refl _) _)).mono ?_); rintro e w1 ⟨rfl, hb1⟩)
    go_ret2
    exact ⟨rfl, below_step hb1 (Below.alloc (Below.refl _ _) (Nat.le_refl _) _) (by simp)⟩
  | true =>
    have e1 : volV xs zs rs = volZ xs zs rs := by unfold volV; rw [hr]; rfl
    have e2 : tabE xs zs rs = 0 := by unfold tabE; rw [hr]; rfl
    rw [e1, e2]
    rw [e2] at C
    obtain ⟨ok1, ok2, hrl, hrw, hH⟩ := table_ok hr
    have hg : gridB xs zs = true := by simp only [gridB, Bool.and_eq_true]; exact ⟨okP_mk ok1, okP_mk ok2⟩
    have G : Hid (∀ W, Below w.heap.size w W → Calls Tryd.prog 5 #[.slice A1 xs.length c1, .slice A2 zs.length c2] W (RetRR (gridZ xs zs) 0 W)) := Lib.hid (fun W hB => by
      have := refGrid_any xs zs A1 c1 A2 c2 h.hc1 h.hm1 h.hc2 h.hm2 W ((h.rd1.keep hB (Nat.le_refl _)).more hB.size) ((h.rd2.keep hB (Nat.le_refl _)).more hB.size)
      unfold gridV gridE at this
      rwa [hg] at this)
    obtain ⟨n, hn⟩ : ∃ n, xs.length = n := ⟨_, rfl⟩
    obtain ⟨m, hm⟩ : ∃ n, zs.length = n := ⟨_, rfl⟩
    have n2 : 2 ≤ n := by have := ok1.two; omega
    have n9 : n ≤ 9 := by have := ok1.many; omega
    have m2 : 2 ≤ m := by have := ok2.two; omega
    have m7 : m ≤ 7 := by have := ok2.many; omega
    have hgl : (gridZ xs zs).length = n := by unfold gridZ; rw [gridT_length, weightsZ_length, hn]
    have hgr : ∀ i, i < n → (rx (gridZ xs zs) i).length = m := fun i hi => by
      unfold gridZ
      rw [gridT_full (by rw [weightsZ_length]; omega)]
      simp [weightsZ_length, hm]
    have hrn : rs.length = n := hrl.trans hn
    have hz : volZ xs zs rs = volT (gridZ xs zs) rs m (n * m) := by unfold volZ; rw [hn, hm]
    have HT := Lib.hid h
    rw [hz]
    obtain ⟨gz, hgz⟩ : ∃ g, gridZ xs zs = g := ⟨_, rfl⟩
    rw [hgz] at G hgl hgr ⊢
    rw [hn, hm, hrn] at C ⊢
    rw [hn, hm] at G
    have HGR := Lib.hid hgr
    have HGL := Lib.hid hgl
    have HRN := Lib.hid hrn
    have HRW : Hid (∀ i, i < n → (rx rs i).length = m) := Lib.hid (fun i hi => by rw [hrw i (by omega), hm])
    have hc3 := h.hc3
    rw [hrn] at hc3
    clear ok1 ok2 hrl hrw hH hg hn hm hgl hgr hrn hz hgz e1 e2 h hr
    go_enter Tryd.func7, Tryd.ntmps7
    go_wp2_with (go_at_call 14; (with_reducible refine (C.out _ (Below.alloc (Below.refl _ _) (Nat.le_refl _) _)).mono ?_); rintro e w1 ⟨rfl, hb1⟩; obtain ⟨d0, d1, d2⟩ := cells_box3 hb1; have hB1 := Lib.hid (below_step hb1 (Below.alloc (Below.refl _ _) (Nat.le_refl _) _) (by simp)); have hz1 := hb1.size; clear hb1)
    refine (G.out _ hB1.out).mono ?_
    rintro e V ⟨A9, c9, us, rfl, h91, h92, hrr, hb2⟩
    rw [HGL.out] at h91 ⊢
    have e2 := cell_later hb2 d2
    have HB := Lib.hid (below_step hb2 hB1.out hB1.out.size)
    have HRR := Lib.hid hrr
    clear hb2 hrr d0 d1 d2 C G hz1 hB1
    go_wp2
    go_loopw [6, 7] (fun s x wr => ∃ k q : Nat, k ≤ n ∧ x = .int .i64 k ∧ s = .int .i64 (volT gz rs m (k * m)) ∧ wr = V.drewN q) (fun _ x _ => n - (intOf x).toNat)
    case atStart => exact ⟨0, 0, by omega, rfl, by rw [Nat.zero_mul]; rfl, rfl⟩
    case round =>
      obtain ⟨k, q, hk, rfl, rfl, rfl⟩ := hrel
      by_cases hk' : k < n
      · obtain ⟨b3, o3, rfl, hb3, hc3'⟩ := HT.out.rd3.cells (by have := HRN.out; omega)
        obtain ⟨b9, o9, rfl, hb9, hc9'⟩ := HRR.out.cells (by have := HGL.out; omega)
        obtain ⟨Ai, ci, hv, hci, hmi, hri⟩ := HT.out.rd3.each k (by have := HRN.out; omega)
        obtain ⟨Aj, cj, hv2, hcj, hmj, hrj⟩ := HRR.out.each k (by have := HGL.out; omega)
        have x3 := cell_later HB.out (hc3' k (by have := HRN.out; omega))
        have x9 := hc9' k (by have := HGL.out; omega)
        rw [hv, HRW.out k hk'] at x3
        rw [hv2, HGR.out k hk'] at x9
        obtain ⟨bi, oi, rfl, hbi, hcl⟩ := hri.ints (by rw [HRW.out k hk']; omega)
        obtain ⟨bj, oj, rfl, hbj, hcl2⟩ := hrj.ints (by rw [HGR.out k hk']; omega)
        rw [HRW.out k hk'] at hcl
        rw [HGR.out k hk'] at hcl2
        have HC1 := Lib.hid hcl
        have HC2 := Lib.hid hcl2
        clear hc3' hc9' hv hv2 hri hrj hcl hcl2 hci hmi hcj hmj
        go_wp2
        go_loopw [6, 8] (fun s x wr => ∃ j p : Nat, j ≤ m ∧ x = .int .i64 j ∧ s = .int .i64 (volT gz rs m (k * m + j)) ∧ wr = V.drewN p) (fun _ x _ => m - (intOf x).toNat)
        case atStart => exact ⟨0, q, by omega, rfl, by rw [Nat.add_zero], rfl⟩
        case round =>
          obtain ⟨j, p, hj, rfl, rfl, rfl⟩ := hrel
          by_cases hj' : j < m
          · have y1 := cell_later HB.out (HC1.out j hj')
            have y2 := HC2.out j hj'
            have HS := Lib.hid (volT_at gz rs (m := m) (i := k) hj')
            go_wp2
            go_quiet (fail)
            go_wp2
            go_roundw
            case rel => exact ⟨j + 1, p + nq, by omega, by go_num, by rw [← Nat.add_assoc, HS.out]; (try simp only [IntWalk.i64_left]), by first | trivial | rfl | rw [World.drewN_drewN]⟩
            case measure => simp [intOf]; omega
          · obtain rfl : m = j := by omega
            go_wp2
            go_roundw
            case rel => exact ⟨k + 1, p, by omega, by go_num, by rw [Nat.succ_mul], by first | trivial | rfl⟩
            case measure => simp [intOf]; omega
      · obtain rfl : n = k := by omega
        go_wp2
        go_ret2
        exact ⟨rfl, below_drewN HB.out _⟩
theorem refLitres_any {xs zs : List Int} {rs : List (List Int)} (A1 : Option Addr) (c1 : Nat) (A2 : Option Addr) (c2 : Nat) (A3 : Option Addr) (c3 : Nat) (vs : List Value) (w : World) (h : TD w w.heap.size xs zs rs A1 c1 A2 c2 A3 c3 vs) :
    Calls Tryd.prog 9 #[.agg #[.slice A1 xs.length c1, .slice A2 zs.length c2, .slice A3 rs.length c3]] w fun e w' => e = .returned (.tuple #[.int .i64 (litV xs zs rs), .int .i64 (tabE xs zs rs)]) ∧ Below w.heap.size w w' := by
  have C : Hid (∀ W, Below w.heap.size w W → Calls Tryd.prog 7 #[.agg #[.slice A1 xs.length c1, .slice A2 zs.length c2, .slice A3 rs.length c3]] W fun e w' => e = .returned (.tuple #[.int .i64 (volV xs zs rs), .int .i64 (tabE xs zs rs)]) ∧ Below W.heap.size W w') := Lib.hid (fun W hB => refVolume_any A1 c1 A2 c2 A3 c3 vs W ((h.keep hB (Nat.le_refl _)).more hB.size))
  obtain ⟨f0, f1⟩ := vol_fits xs zs rs
  have hl := litV_eq xs zs rs
  have ht : (tabE xs zs rs = 0) ∨ (tabE xs zs rs = 13 ∧ volV xs zs rs = 0) := by
    unfold tabE volV
    cases tableB xs zs rs
    · right; exact ⟨rfl, rfl⟩
    · left; rfl
  obtain ⟨v, hv⟩ : ∃ v, volV xs zs rs = v := ⟨_, rfl⟩
  rw [hv] at f0 f1 hl ht
  rw [hv] at C
  rw [← hl]
  have F : Hid (∀ W, Calls Tryd.prog 23 #[.int .i64 v, .int .i64 1296000000] W fun e w' => e = .returned (.int .i64 (v / 1296000000)) ∧ W = w') := Lib.hid (down_any v 1296000000 (by omega) (by omega) (by omega) (by omega))
  clear hv hl h
  rcases ht with ht | ⟨ht, rfl⟩
  · rw [ht] at C ⊢
    clear ht
    go_enter Tryd.func9, Tryd.ntmps9
    go_wp2_with (first | (go_at_call 7; (with_reducible refine (C.out _ (Below.alloc (Below.refl _ _) (Nat.le_refl _) _)).mono ?_); rintro e w1 ⟨rfl, hb1⟩) | (go_at_call 23; (with_reducible refine (F.out _).mono ?_); rintro e w' ⟨rfl, rfl⟩))
    go_ret2
    exact ⟨rfl, below_step hb1 (Below.alloc (Below.refl _ _) (Nat.le_refl _) _) (by simp)⟩
  · rw [ht] at C ⊢
    clear ht F
    go_enter Tryd.func9, Tryd.ntmps9
    go_wp2_with (go_at_call 7; (with_reducible refine (C.out _ (Below.alloc (Below.refl _ _) (Nat.le_refl _) _)).mono ?_); rintro e w1 ⟨rfl, hb1⟩)
    go_ret2
    exact ⟨rfl, below_step hb1 (Below.alloc (Below.refl _ _) (Nat.le_refl _) _) (by simp)⟩

end Go.Proofs.YtdlmdaononclgaaDoor
