import Derived.Test.YtdlmdaononclgaaTab
import Derived.Test.YtdlmdaononclgaaSane
import Derived.Test.YtdlmdaononclgaaKept
import Derived.Test.YtdlmdaononclgaaFb
import Derived.Deep.RegionHeld3
import Derived.Deep.Cut
import Derived.Deep.CutRange

/- WeighVolumes: the walk. -/
namespace Go.Proofs.Ytdlmdaononclgaa
open Go.RowKit
set_option linter.unusedVariables false
set_option linter.unusedSimpArgs false

theorem Area_n {xs ys : List Int} {a e0 : Int} {n m : Nat} (hr : areaR xs ys = (a, e0)) (hn : xs.length = n) (hm' : ys.length = m) (A : Option Addr) (c : Nat) (A2 : Option Addr) (c2 : Nat) (hc : n ≤ c) (hm : c ≤ 9223372036854775807) (hc2 : m ≤ c2) (hm2 : c2 ≤ 9223372036854775807) (w : World) {B : Nat} (hB : B ≤ w.heap.size) (h : RD w B A (ints xs)) (h2 : RD w B A2 (ints ys)) :
    Calls Try.prog 20 #[.slice A n c, .slice A2 m c2] w fun e w' => e = .returned (.tuple #[.int .i64 a, .int .i64 e0]) ∧ Below w.heap.size w w' := by
  subst hn; subst hm'; exact Area_is xs ys A c A2 c2 hc hm hc2 hm2 hr w hB h h2
theorem Volume_n {xs zs : List Int} {rs : List (List Int)} {v : Int} {n m k : Nat} (hr : tableB xs zs rs = true) (hl : volZ xs zs rs = v) (hn : xs.length = n) (hm : zs.length = m) (hk : rs.length = k) (A1 : Option Addr) (c1 : Nat) (A2 : Option Addr) (c2 : Nat) (A3 : Option Addr) (c3 : Nat) (vs : List Value) (w : World) (h : TD w w.heap.size xs zs rs A1 c1 A2 c2 A3 c3 vs) :
    Calls Try.prog 18 #[.agg #[.slice A1 n c1, .slice A2 m c2, .slice A3 k c3]] w fun e w' => e = .returned (.tuple #[.int .i64 v, .int .i64 0]) ∧ Below w.heap.size w w' := by
  subst hn; subst hm; subst hk; subst hl; exact Volume_yes hr A1 c1 A2 c2 A3 c3 vs w h
theorem area_val {xs ys : List Int} (hP : OkP 9 100000 xs) (hl : ys.length = xs.length) (hb : ∀ j, -20000 ≤ ix ys j ∧ ix ys j ≤ 20000) : areaR xs ys = (sm (weightsZ xs) (fun j => ix ys j) xs.length, 0) := by
  have ho : ordE xs ys = 0 := by
    unfold ordE
    rw [if_pos (okP_mk hP), if_pos hl, if_neg]
    rw [anyB_no (fun j hj => by have := hb j; simp only [badO, within, Bool.not_eq_false', Bool.and_eq_true, decide_eq_true_eq]; omega)]
    simp
  unfold areaR
  rw [if_pos ho, dotK_sm]
theorem cells_two (w : World) (a b : Value) (t : TypeId) : (w.alloc (.cells #[a, b] t)).cell? ⟨w.heap.size, 0, none⟩ = some a ∧ (w.alloc (.cells #[a, b] t)).cell? ⟨w.heap.size, 1, none⟩ = some b := by
  constructor <;> (rw [cell_of_row _ w.heap.size _ _ _ _ (heap_alloc_new w _)]; rfl)
/-- a column of halves. -/
def colZ (rs : List (List Int)) (k n : Nat) : List Int := (List.range n).map fun (i : Nat) => ix (rx rs i) k
theorem colZ_length (rs : List (List Int)) (k n : Nat) : (colZ rs k n).length = n := by simp [colZ]
theorem colZ_succ (rs : List (List Int)) (k n : Nat) : colZ rs k (n + 1) = colZ rs k n ++ [ix (rx rs n) k] := by simp [colZ, List.range_succ]
theorem colZ_ix {rs : List (List Int)} {k n j : Nat} (h : j < n) : ix (colZ rs k n) j = ix (rx rs j) k := by simp [ix, colZ, List.getD, h]
theorem colZ_bd {rs : List (List Int)} (h : ∀ i k, 0 ≤ ix (rx rs i) k ∧ ix (rx rs i) k ≤ 20000) (k n j : Nat) : -20000 ≤ ix (colZ rs k n) j ∧ ix (colZ rs k n) j ≤ 20000 := by
  by_cases hj : j < n
  · rw [colZ_ix hj]; have := h j k; omega
  · rw [ix_out (by rw [colZ_length]; omega)]; omega
theorem rep_succ (k : Nat) (y : Int) : List.replicate (k + 1) y = List.replicate k y ++ [y] := List.replicate_succ'

set_option maxHeartbeats 4000000 in
set_option maxRecDepth 100000 in
theorem weighVolumes_walk (sx zx hs : List Int) (A1 : Option Addr) (c1 : Nat) (A2 : Option Addr) (c2 : Nat) (A3 : Option Addr) (c3 : Nat) (hc1 : sx.length ≤ c1) (hm1 : c1 ≤ 17592186043904) (hc2 : zx.length ≤ c2) (hm2 : c2 ≤ 17592186043904) (hc3 : hs.length ≤ c3) (hm3 : c3 ≤ 17592186043904) (y : Int) (y0 : -9223372036854775808 ≤ y) (y1 : y ≤ 9223372036854775807) (w : World)
    (h1 : RD w w.heap.size A1 (ints sx)) (h2 : RD w w.heap.size A2 (ints zx)) (h3 : RD w w.heap.size A3 (ints hs)) (bd1 : ∀ j, -9223372036854775808 ≤ ix sx j ∧ ix sx j ≤ 9223372036854775807) (bd2 : ∀ j, -9223372036854775808 ≤ ix zx j ∧ ix zx j ≤ 9223372036854775807) (bd3 : ∀ j, -9223372036854775808 ≤ ix hs j ∧ ix hs j ≤ 9223372036854775807) :
    Calls Try.prog 4 #[.agg #[.slice A1 sx.length c1, .slice A2 zx.length c2, .slice A3 hs.length c3], .int .i64 y] w fun e w' => e = .returned (.bool true) ∧ Below w.heap.size w w' := by
  have HT : Hid (∀ W, Below w.heap.size w W → Calls Try.prog 17 #[.slice A1 sx.length c1, .slice A2 zx.length c2, .slice A3 hs.length c3] W (RetTb W)) := Lib.hid (fun W hb => Table_any sx zx hs A1 c1 A2 c2 A3 c3 hc1 hm1 hc2 hm2 hc3 hm3 W ((h1.keep hb (Nat.le_refl _)).more hb.size) ((h2.keep hb (Nat.le_refl _)).more hb.size) ((h3.keep hb (Nat.le_refl _)).more hb.size) bd1 bd2 bd3)
  obtain ⟨my, hmy⟩ : ∃ r, y % 20000 = r := ⟨_, rfl⟩
  have HM : Hid (∀ W, Calls Try.prog 13 #[.int .i64 y, .int .i64 20000] W fun e w' => e = .returned (.int .i64 my) ∧ W = w') := Lib.hid (mod_is hmy y0 y1 (by omega) (by omega))
  have my0 : 0 ≤ my := by omega
  have my1 : my ≤ 19999 := by omega
  clear h1 h2 h3 bd1 bd2 bd3 hmy y0 y1
  go_enter Try.func4, Try.ntmps4
  go_wp2_with fail
  refine (HT.out _ (Below.alloc (Below.refl _ _) (Nat.le_refl _) _)).mono ?_
  rintro e V1 ⟨xs, zs, rs, B1, d1, B2, d2, B3, d3, vs, rfl, htd, htb, hbl⟩
  obtain ⟨ok1, ok2, hrl, hrw, hH⟩ := table_ok htb
  obtain ⟨hv, hv0, hv1⟩ := volZ_eq htb
  have hvs := volZ_swap htb
  obtain ⟨n, hn⟩ : ∃ n, xs.length = n := ⟨_, rfl⟩
  obtain ⟨m, hm⟩ : ∃ m, zs.length = m := ⟨_, rfl⟩
  have hrn : rs.length = n := hrl.trans hn
  rw [hn, hm, hrn]
  rw [hn, hm] at hv hvs
  obtain ⟨v, hvv⟩ : ∃ v, volZ xs zs rs = v := ⟨_, rfl⟩
  rw [hvv] at hv hv0 hv1 hvs
  have n2 : 2 ≤ n := by have := ok1.two; omega
  have n9 : n ≤ 9 := by have := ok1.many; omega
  have m2 : 2 ≤ m := by have := ok2.two; omega
  have m7 : m ≤ 7 := by have := ok2.many; omega
  obtain ⟨ws, hws⟩ : ∃ l, weightsZ xs = l := ⟨_, rfl⟩
  obtain ⟨us, hus⟩ : ∃ l, weightsZ zs = l := ⟨_, rfl⟩
  have wl : ws.length = n := by rw [← hws, weightsZ_length, hn]
  have ul : us.length = m := by rw [← hus, weightsZ_length, hm]
  have sw : sA ws n ≤ 4800000 := by
    have := sA_weights ok1
    have := ok1.low
    have := ok1.high
    rw [hws, hn] at *
    omega
  have su : sA us m ≤ 720000 := by
    have := sA_weights ok2
    have := ok2.low
    have := ok2.high
    rw [hus, hm] at *
    omega
  rw [hws, hus] at hv hvs
  have rowA : ∀ i, i < n → areaR zs (rx rs i) = (sm us (fun k => ix (rx rs i) k) m, 0) := fun i hi => by
    rw [← hus, ← hm]; exact area_val ok2.wide (by rw [hrw i (by omega)]) (fun j => by have := hH i j; omega)
  have colA : ∀ k, areaR xs (colZ rs k n) = (sm ws (fun i => ix (rx rs i) k) n, 0) := fun k => by
    have e := area_val (ys := colZ rs k n) ok1 (by rw [colZ_length, hn]) (colZ_bd hH k n)
    rw [e, hws, hn]
    refine Prod.ext (sm_congr' (fun j hj => colZ_ix hj)) rfl
  have rowB : ∀ i k, k ≤ m → -14400000000 ≤ sm us (fun k => ix (rx rs i) k) k ∧ sm us (fun k => ix (rx rs i) k) k ≤ 14400000000 := fun i k hk => by
    have := sm_bdC (ws := us) (f := fun k => ix (rx rs i) k) (n := k) (M := 20000) (C := 720000) (by omega) (by have := sA_mono us hk; omega) (fun j _ => by have := hH i j; omega)
    omega
  have colB : ∀ k i, i ≤ n → -96000000000 ≤ sm ws (fun i => ix (rx rs i) k) i ∧ sm ws (fun i => ix (rx rs i) k) i ≤ 96000000000 := fun k i hi => by
    have := sm_bdC (ws := ws) (f := fun i => ix (rx rs i) k) (n := i) (M := 20000) (C := 4800000) (by omega) (by have := sA_mono ws hi; omega) (fun j _ => by have := hH j k; omega)
    omega
  have oneB : ∀ i, i ≤ n → -69120000000000000 ≤ sm ws (fun i => sm us (fun k => ix (rx rs i) k) m) i ∧ sm ws (fun i => sm us (fun k => ix (rx rs i) k) m) i ≤ 69120000000000000 := fun i hi => by
    have := sm_bdC (ws := ws) (f := fun i => sm us (fun k => ix (rx rs i) k) m) (n := i) (M := 14400000000) (C := 4800000) (by omega) (by have := sA_mono ws hi; omega) (fun j _ => rowB j m (Nat.le_refl _))
    omega
  have twoB : ∀ k, k ≤ m → -69120000000000000 ≤ sm us (fun k => sm ws (fun i => ix (rx rs i) k) n) k ∧ sm us (fun k => sm ws (fun i => ix (rx rs i) k) n) k ≤ 69120000000000000 := fun k hk => by
    have := sm_bdC (ws := us) (f := fun k => sm ws (fun i => ix (rx rs i) k) n) (n := k) (M := 96000000000) (C := 720000) (by omega) (by have := sA_mono us hk; omega) (fun j _ => colB j n (Nat.le_refl _))
    omega
  obtain ⟨q, hq⟩ : ∃ q, v / 1296000000 = q := ⟨_, rfl⟩
  have hq1 : q * 1296000000 ≤ v := by omega
  have hq2 : v < (q + 1) * 1296000000 := by omega
  have hq3 : -300000000 ≤ q := by omega
  have hq4 : q ≤ 300000000 := by omega
  have hx0 : 0 ≤ ix xs 0 := ok1.low
  have hxn : ix xs (n - 1) ≤ 100000 := by have := ok1.high; rwa [hn] at this
  have hx0' : ix xs 0 ≤ 100000 := ok1.hi' 0 (by omega)
  have hxn' : 0 ≤ ix xs (n - 1) := ok1.lo _ (by omega)
  obtain ⟨ma, mb, me, hmk⟩ : ∃ a b e, mkR (ix xs 0 + ix xs (n - 1)) 2 = (a, b, e) := ⟨_, _, _, rfl⟩
  have hme : me = 0 := by
    have h := hmk
    unfold mkR at h
    rw [if_neg (by omega)] at h
    simp only at h
    have g1 : ((ix xs 0 + ix xs (n - 1)).natAbs / (ix xs 0 + ix xs (n - 1)).natAbs.gcd (2 : Int).natAbs) ≤ (ix xs 0 + ix xs (n - 1)).natAbs := Nat.div_le_self _ _
    have g2 : ((2 : Int).natAbs / (ix xs 0 + ix xs (n - 1)).natAbs.gcd (2 : Int).natAbs) ≤ (2 : Int).natAbs := Nat.div_le_self _ _
    rw [if_neg (by omega)] at h
    exact (Prod.ext_iff.1 (Prod.ext_iff.1 h).2).2.symm
  subst hme
  have hcen : cenR xs (List.replicate n (1 + my)) = (ma, mb, 0) := by rw [← hmk, ← hn]; exact cen_same ok1 (by omega) (by omega)
  have HV : Hid (∀ W, Below V1.heap.size V1 W → Calls Try.prog 18 #[.agg #[.slice B1 n d1, .slice B2 m d2, .slice B3 n d3]] W fun e w' => e = .returned (.tuple #[.int .i64 v, .int .i64 0]) ∧ Below W.heap.size W w') := Lib.hid (fun W hb => Volume_n htb hvv hn hm hrn B1 d1 B2 d2 B3 d3 vs W ((htd.keep hb (Nat.le_refl _)).more hb.size))
  have HL : Hid (∀ W, Below V1.heap.size V1 W → Calls Try.prog 19 #[.agg #[.slice B1 n d1, .slice B2 m d2, .slice B3 n d3]] W fun e w' => e = .returned (.tuple #[.int .i64 q, .int .i64 0]) ∧ Below W.heap.size W w') := Lib.hid (fun W hb => hq ▸ Litres_is htb hvv (by omega) (by omega) hn hm hrn B1 d1 B2 d2 B3 d3 vs W ((htd.keep hb (Nat.le_refl _)).more hb.size))
  have k1 : n ≤ d1 := hn ▸ htd.hc1
  have k2 : m ≤ d2 := hm ▸ htd.hc2
  have k3 : n ≤ d3 := hrn ▸ htd.hc3
  have km1 := htd.hm1
  have km2 := htd.hm2
  have km3 := htd.hm3
  have HW1 : Hid (∀ W, Below V1.heap.size V1 W → Calls Try.prog 14 #[.slice B1 n d1] W fun e w' => ∃ g, e = .returned (.tuple #[.slice (some ⟨g, 0, none⟩) n n, .int .i64 0]) ∧ W.heap.size ≤ g ∧ Arr w' g ws ∧ Below W.heap.size W w') := Lib.hid (fun W hb => Weights_is (okP_mk ok1) hws hn wl B1 d1 k1 km1 W ((htd.rd1.keep hb (Nat.le_refl _)).more hb.size))
  have HW2 : Hid (∀ W, Below V1.heap.size V1 W → Calls Try.prog 14 #[.slice B2 m d2] W fun e w' => ∃ g, e = .returned (.tuple #[.slice (some ⟨g, 0, none⟩) m m, .int .i64 0]) ∧ W.heap.size ≤ g ∧ Arr w' g us ∧ Below W.heap.size W w') := Lib.hid (fun W hb => Weights_is (okP_mk ok2.wide) hus hm ul B2 d2 k2 km2 W ((htd.rd2.keep hb (Nat.le_refl _)).more hb.size))
  have HAR : Hid (∀ i, i < n → ∃ Ai ci bi oi, vx vs i = .slice Ai m ci ∧ Ai = some ⟨bi, oi, none⟩ ∧ bi < V1.heap.size ∧ (∀ k, k < m → V1.cell? ⟨bi, oi + k, none⟩ = some (.int .i64 (ix (rx rs i) k))) ∧ ∀ W, Below V1.heap.size V1 W → Calls Try.prog 20 #[.slice B2 m d2, .slice Ai m ci] W fun e w' => e = .returned (.tuple #[.int .i64 (sm us (fun k => ix (rx rs i) k) m), .int .i64 0]) ∧ Below W.heap.size W w') := Lib.hid (fun i hi => by
    obtain ⟨Ai, ci, e, h1, h2, h3⟩ := htd.rd3.each i (by omega)
    have hl := hrw i (by omega)
    rw [hm] at hl
    rw [hl] at e h1
    obtain ⟨bi, oi, rfl, hbi, hcl⟩ := h3.ints (by omega)
    rw [hl] at hcl
    exact ⟨_, ci, bi, oi, e, rfl, hbi, hcl, fun W hb => Area_n (rowA i hi) hm hl B2 d2 _ ci k2 km2 h1 h2 W hb.size (htd.rd2.keep hb (Nat.le_refl _)) (h3.keep hb (Nat.le_refl _))⟩)
  have HAC : Hid (∀ k (W0 W : World) (v : Value) (A : Option Addr) (c : Nat), Below V1.heap.size V1 W → v = .slice A n c → OwnI W W0.heap.size v (colZ rs k n) → Calls Try.prog 20 #[.slice B1 n d1, .slice A n c] W fun e w' => e = .returned (.tuple #[.int .i64 (sm ws (fun i => ix (rx rs i) k) n), .int .i64 0]) ∧ Below W.heap.size W w') := Lib.hid (fun k W0 W v A c hb e ho => by
    subst e
    obtain ⟨_, _, e, h1, h2, h3, _⟩ := ho.form
    rw [colZ_length] at e h1
    cases e
    exact Area_n (colA k) hn (colZ_length ..) B1 d1 A c k1 km1 h1 h2 W (Nat.le_refl _) ((htd.rd1.keep hb (Nat.le_refl _)).more hb.size) h3)
  have HCE : Hid (∀ (W0 W : World) (v : Value) (A : Option Addr) (c : Nat), Below V1.heap.size V1 W → v = .slice A n c → OwnI W W0.heap.size v (List.replicate n (1 + my)) → Calls Try.prog 21 #[.slice B1 n d1, .slice A n c] W fun e w' => e = .returned (.tuple #[.agg #[.int .i64 ma, .int .i64 mb], .int .i64 0]) ∧ Below W.heap.size W w') := Lib.hid (fun W0 W v A c hb e ho => by
    subst e
    obtain ⟨_, _, e, h1, h2, h3, _⟩ := ho.form
    rw [List.length_replicate] at e h1
    cases e
    exact Centre_is hcen hn (by simp) B1 d1 A c k1 km1 h1 h2 W ((htd.rd1.keep hb (Nat.le_refl _)).more hb.size) h3)
  have HMK : Hid (∀ W, Calls Try.prog 22 #[.int .i64 (ix xs 0 + ix xs (n - 1)), .int .i64 2] W fun e w' => e = .returned (.tuple #[.agg #[.int .i64 ma, .int .i64 mb], .int .i64 0]) ∧ Below W.heap.size W w') := Lib.hid (make_is hmk (by omega) (by omega) (by omega) (by omega))
  have HXS : Hid (∃ b o, B1 = some ⟨b, o, none⟩ ∧ b < V1.heap.size ∧ ∀ j, j < n → V1.cell? ⟨b, o + j, none⟩ = some (.int .i64 (ix xs j))) := Lib.hid (by
    obtain ⟨b, o, e, h1, h2⟩ := htd.rd1.ints (by omega)
    rw [hn] at h2
    exact ⟨b, o, e, h1, h2⟩)
  have HRS : Hid (∃ b o, B3 = some ⟨b, o, none⟩ ∧ b < V1.heap.size ∧ ∀ j, j < n → V1.cell? ⟨b, o + j, none⟩ = some (vx vs j)) := Lib.hid (by
    obtain ⟨b, o, e, h1, h2⟩ := htd.rd3.cells (by omega)
    rw [hrn] at h2
    exact ⟨b, o, e, h1, h2⟩)
  have HSW : Hid (∀ i, i < n → -4800000 ≤ ix ws i ∧ ix ws i ≤ 4800000) := Lib.hid (fun i hi => by have := sA_at ws hi; omega)
  have HSU : Hid (∀ i, i < m → -720000 ≤ ix us i ∧ ix us i ≤ 720000) := Lib.hid (fun i hi => by have := sA_at us hi; omega)
  have HB1 := Lib.hid (show Below w.heap.size w V1 from below_step hbl (Below.alloc (Below.refl _ _) (Nat.le_refl _) _) (by simp))
  have HZ1 : w.heap.size < V1.heap.size := by have := hbl.size; simp only [World.size_alloc] at this; omega
  have HWL := Lib.hid wl
  have HUL := Lib.hid ul
  have RowB := Lib.hid rowB
  have ColB := Lib.hid colB
  have OneB := Lib.hid oneB
  have TwoB := Lib.hid twoB
  have HV1 := Lib.hid hv
  have HV2 := Lib.hid hvs
  clear htd htb hbl ok1 ok2 hrl hrw hH hv hvs hvv hn hm hrn hws hus wl ul sw su rowA colA rowB colB oneB twoB hq hmk hcen HT
  go_wp2_with fail
  generalize hX : V1.alloc (.cells #[.slice B1 n d1, .slice B2 m d2, .slice B3 n d3] 34) = X1
  have hbx : X1.heap[V1.heap.size]? = some (.cells #[.slice B1 n d1, .slice B2 m d2, .slice B3 n d3] 34 (0, 0)) := by rw [← hX]; exact heap_alloc_new V1 _
  have hX1 : Below V1.heap.size V1 X1 := by rw [← hX]; repeat' (first | (with_reducible exact Below.refl _ _) | (with_reducible assumption) | (refine below_step (by assumption) ?_ ?_) | (with_reducible refine below_drewN ?_ _) | (with_reducible refine Below.drew ?_) | (with_reducible refine Below.alloc ?_ ?_ _) | (with_reducible refine Below.setCell ?_ ?_ _) | go_size)
  obtain ⟨e0, e1, e2, _, ez⟩ := cells3 hbx
  have L1 := Lib.hid hX1
  clear hX hbx hX1
  refine (HV.out _ L1.out).mono ?_
  rintro e V2 ⟨rfl, hb⟩
  have L2 := Lib.hid (below_step hb L1.out L1.out.size)
  replace e0 := cell_later hb e0
  replace e1 := cell_later hb e1
  replace e2 := cell_later hb e2
  replace ez : V1.heap.size < V2.heap.size := by have := hb.size; omega
  clear hb L1
  go_wp2_with fail
  refine (HL.out _ L2.out).mono ?_
  rintro e V3 ⟨rfl, hb⟩
  have L3 := Lib.hid (below_step hb L2.out L2.out.size)
  replace e0 := cell_later hb e0
  replace e1 := cell_later hb e1
  replace e2 := cell_later hb e2
  replace ez : V1.heap.size < V3.heap.size := by have := hb.size; omega
  clear hb L2
  go_wp2_with fail
  refine (HW1.out _ L3.out).mono ?_
  rintro e V4 ⟨g1, rfl, hg1, ha1, hb⟩
  have L4 := Lib.hid (below_step hb L3.out L3.out.size)
  replace e0 := cell_later hb e0
  replace e1 := cell_later hb e1
  replace e2 := cell_later hb e2
  replace ez : V1.heap.size < V4.heap.size := by have := hb.size; omega
  have R1 := Lib.hid ha1
  clear hb L3 ha1
  go_wp2_with fail
  refine (HW2.out _ L4.out).mono ?_
  rintro e V5 ⟨g2, rfl, hg2, ha2, hb⟩
  have L5 := Lib.hid (below_step hb L4.out L4.out.size)
  replace e0 := cell_later hb e0
  replace e1 := cell_later hb e1
  replace e2 := cell_later hb e2
  replace ez : V1.heap.size < V5.heap.size := by have := hb.size; omega
  have R1' := Lib.hid (R1.out.of_block (hb.block _ R1.out.lt))
  have R2 := Lib.hid ha2
  have gz1 := R1'.out.lt
  have gz2 := ha2.lt
  clear hb L4 ha2 R1 hg1 hg2 HV HL HW1 HW2
  go_wp2
  go_loopw [14, 15] (fun o x wr => ∃ k : Nat, k ≤ n ∧ x = .int .i64 k ∧ o = .int .i64 (2 * sm ws (fun i => sm us (fun k => ix (rx rs i) k) m) k) ∧ Below V5.heap.size V5 wr) (fun _ x _ => n - (intOf x).toNat)
  case atStart => exact ⟨0, by omega, rfl, rfl, Below.refl _ _⟩
  case round =>
    obtain ⟨k, hk, rfl, rfl, hB⟩ := hrel
    have HB := Lib.hid hB
    clear hB
    by_cases hk' : k < n
    · obtain ⟨_, ci, bi, oi, evx, rfl, hbi, _, har⟩ := HAR.out k hk'
      obtain ⟨b3, o3, rfl, hb3, hc3'⟩ := HRS.out
      have c3k := hc3' k hk'
      rw [evx] at c3k
      have x3 := cell_later (below_step HB.out L5.out L5.out.size) c3k
      have x1 := cell_later HB.out e1
      have x2 := cell_later HB.out e2
      have xw := cell_later HB.out (R1'.out.cell (j := k) (by rw [HWL.out]; exact hk'))
      obtain ⟨u0, u1⟩ := HSW.out k hk'
      obtain ⟨t0, t1⟩ := RowB.out k m (Nat.le_refl _)
      obtain ⟨S, hS⟩ : ∃ S, sm us (fun j => ix (rx rs k) j) m = S := ⟨_, rfl⟩
      obtain ⟨o0, o1⟩ := OneB.out k hk
      obtain ⟨O, hO⟩ : ∃ O, sm ws (fun i => sm us (fun k => ix (rx rs i) k) m) k = O := ⟨_, rfl⟩
      have hnx : sm ws (fun i => sm us (fun k => ix (rx rs i) k) m) (k + 1) = O + ix ws k * S := by rw [sm, hO, hS]
      rw [hS] at har t0 t1
      rw [hO] at o0 o1
      rw [hO]
      obtain ⟨p0, p1⟩ := mulbd (x := ix ws k) (y := S) (M := 4800000) (N := 14400000000) ⟨u0, u1⟩ ⟨t0, t1⟩ (by omega) (by omega)
      obtain ⟨p2, p3⟩ := mulbd (x := 2 * ix ws k) (y := S) (M := 9600000) (N := 14400000000) (by omega) ⟨t0, t1⟩ (by omega) (by omega)
      have w1 : IntKind.i64.wrap (2 * ix ws k) = 2 * ix ws k := IntWalk.i64_in _ ⟨by omega, by omega⟩
      have w2 : IntKind.i64.wrap (2 * ix ws k * S) = 2 * ix ws k * S := IntWalk.i64_in _ ⟨by omega, by omega⟩
      have w3 : IntKind.i64.wrap (2 * O + 2 * ix ws k * S) = 2 * O + 2 * ix ws k * S := IntWalk.i64_in _ ⟨by omega, by omega⟩
      have HNX := Lib.hid hnx
      have bw := below_step HB.out L5.out L5.out.size
      have HA : Hid (∀ W, Below wr.heap.size wr W → Calls Try.prog 20 #[.slice B2 m d2, .slice (some ⟨bi, oi, none⟩) m ci] W fun e w' => e = .returned (.tuple #[.int .i64 S, .int .i64 0]) ∧ Below W.heap.size W w') := Lib.hid (fun W hb => har W (below_step hb bw bw.size))
      clear bw
      clear hnx har hS hO c3k hc3' evx p0 p1 p2 p3 u0 u1 t0 t1 o0 o1
      go_upto_region 12 with fail
      have K1 := Kd.cell x1
      have K2 := Kd.cell x2
      have K3 := Kd.cell x3
      refine region_kept (by kernel_rfl) (by kernel_rfl) ?_
      repeat (go_big_quiet_step ((go_at_call 20; exact kept_call (HA.out _ (Kd.ok _)))))
      refine wpQuiet_nil ?_
      rintro W6 ⟨kk, hkk⟩
      have B6 : Below wr.heap.size wr W6 := hkk ▸ kk.ok
      have xw6 := cell_later B6 xw
      clear hkk kk K1 K2 K3 x1 x2 x3 xw
      go_wp2
      go_roundw
      case rel => exact ⟨k + 1, by omega, by go_num, by rw [HNX.out]; congr 1; grind, below_step B6 HB.out HB.out.size⟩
      case measure => simp [intOf]; omega
    · obtain rfl : n = k := by omega
      rw [← HV1.out]
      obtain ⟨X, rfl⟩ : ∃ X : World, X = wr := ⟨_, rfl⟩
      have LX := Lib.hid (below_step HB.out L5.out L5.out.size)
      replace e0 := cell_later HB.out e0
      replace e1 := cell_later HB.out e1
      replace e2 := cell_later HB.out e2
      replace ez : V1.heap.size < X.heap.size := by have := HB.out.size; omega
      have R2' := Lib.hid (R2.out.of_block (HB.out.block _ R2.out.lt))
      clear HB R1' R2 L5 gz1 gz2
      go_wp2
      go_loopw [18, 19] (fun o x wr => ∃ k : Nat, k ≤ m ∧ x = .int .i64 k ∧ o = .int .i64 (2 * sm us (fun k => sm ws (fun i => ix (rx rs i) k) n) k) ∧ Below X.heap.size X wr) (fun _ x _ => m - (intOf x).toNat)
      case atStart => exact ⟨0, by omega, rfl, rfl, Below.refl _ _⟩
      case round =>
        obtain ⟨k, hk, rfl, rfl, hB⟩ := hrel
        have HB := Lib.hid hB
        clear hB
        by_cases hk' : k < m
        · obtain ⟨wo, rfl⟩ : ∃ wo : World, wo = wr := ⟨_, rfl⟩
          have LO := Lib.hid (below_step HB.out LX.out LX.out.size)
          have x0 := cell_later HB.out e0
          have x2 := cell_later HB.out e2
          have xw := cell_later HB.out (R2'.out.cell (j := k) (by rw [HUL.out]; exact hk'))
          go_wp2
          go_loopw [20, 21] (fun c x wr => ∃ j : Nat, j ≤ n ∧ x = .int .i64 j ∧ OwnI wr wo.heap.size c (colZ rs k j) ∧ Below wo.heap.size wo wr) (fun _ x _ => n - (intOf x).toNat)
          case atStart => exact ⟨0, by omega, rfl, OwnI.nil _ _, Below.refl _ _⟩
          case round =>
            obtain ⟨j, hj, rfl, hown, hbl⟩ := hrel
            have y0 := cell_later hbl x0
            have y2 := cell_later hbl x2
            have yw := cell_later hbl xw
            have yz0 := hbl.size
            have HO := Lib.hid hown
            have HLi := Lib.hid hbl
            clear hown hbl x0 x2 xw
            by_cases hj' : j < n
            · obtain ⟨_, ci, bi, oi, evx, rfl, hbi, hcl, _⟩ := HAR.out j hj'
              obtain ⟨b3, o3, rfl, hb3, hc3'⟩ := HRS.out
              have c3k := hc3' j hj'
              rw [evx] at c3k
              have y3 := cell_later (below_step HLi.out LO.out LO.out.size) c3k
              have y4 := cell_later (below_step HLi.out LO.out LO.out.size) (hcl k hk')
              have HC := Lib.hid (colZ_succ rs k j)
              have hml : (colZ rs k j).length ≤ 1000000 := by rw [colZ_length]; omega
              clear c3k hc3' hcl evx
              go_wp2_with (at_builtin; refine wpList_app1 rfl _ _ rfl wo.heap.size _ _ rfl (HO.out.kept (by repeat' (first | (with_reducible exact Below.refl _ _) | (with_reducible assumption) | (refine below_step (by assumption) ?_ ?_) | (with_reducible refine below_drewN ?_ _) | (with_reducible refine Below.drew ?_) | (with_reducible refine Below.alloc ?_ ?_ _) | (with_reducible refine Below.setCell ?_ ?_ _) | go_size)) (Nat.le_refl _)) wr.heap.size 1 _ rfl (cell_new1 _ _ _) hml (by simp; omega) ?_; intro v' w' hown' hgrow; replace hgrow := app_below HLi.out HO.out hgrow)
              go_roundw
              case rel => exact ⟨j + 1, by omega, by go_num, by rw [HC.out]; exact hown', hgrow⟩
              case measure => simp [intOf]; omega
            · obtain rfl : n = j := by omega
              obtain ⟨Ac, cc, rfl, _, _, _⟩ := HO.out.formN (colZ_length rs k n)
              have hac := HAC.out k wo wr _ Ac cc (below_step HLi.out LO.out LO.out.size) rfl HO.out
              obtain ⟨u0, u1⟩ := HSU.out k hk'
              obtain ⟨t0, t1⟩ := ColB.out k n (Nat.le_refl _)
              obtain ⟨S, hS⟩ : ∃ S, sm ws (fun i => ix (rx rs i) k) n = S := ⟨_, rfl⟩
              obtain ⟨o0, o1⟩ := TwoB.out k hk
              obtain ⟨O, hO⟩ : ∃ O, sm us (fun k => sm ws (fun i => ix (rx rs i) k) n) k = O := ⟨_, rfl⟩
              have hnx : sm us (fun k => sm ws (fun i => ix (rx rs i) k) n) (k + 1) = O + ix us k * S := by rw [sm, hO, hS]
              rw [hS] at hac t0 t1
              rw [hO] at o0 o1
              rw [hO]
              obtain ⟨p0, p1⟩ := mulbd (x := ix us k) (y := S) (M := 720000) (N := 96000000000) ⟨u0, u1⟩ ⟨t0, t1⟩ (by omega) (by omega)
              obtain ⟨p2, p3⟩ := mulbd (x := 2 * ix us k) (y := S) (M := 1440000) (N := 96000000000) (by omega) ⟨t0, t1⟩ (by omega) (by omega)
              have w1 : IntKind.i64.wrap (2 * ix us k) = 2 * ix us k := IntWalk.i64_in _ ⟨by omega, by omega⟩
              have w2 : IntKind.i64.wrap (2 * ix us k * S) = 2 * ix us k * S := IntWalk.i64_in _ ⟨by omega, by omega⟩
              have w3 : IntKind.i64.wrap (2 * O + 2 * ix us k * S) = 2 * O + 2 * ix us k * S := IntWalk.i64_in _ ⟨by omega, by omega⟩
              have HNX := Lib.hid hnx
              have HA := Lib.hid hac
              clear hnx hac hS hO p0 p1 p2 p3 u0 u1 t0 t1 o0 o1
              go_wp2_with fail
              refine HA.out.mono ?_
              rintro e W6 ⟨rfl, B6⟩
              have xw6 := cell_later B6 yw
              have HB6 := Lib.hid B6
              clear B6 yw y0 y2
              go_wp2
              go_roundw
              case rel => exact ⟨k + 1, by omega, by go_num, by rw [HNX.out]; congr 1; grind, below_step (below_step HB6.out HLi.out HLi.out.size) HB.out HB.out.size⟩
              case measure => simp [intOf]; omega
        · obtain rfl : m = k := by omega
          rw [← HV2.out]
          obtain ⟨Y, rfl⟩ : ∃ Y : World, Y = wr := ⟨_, rfl⟩
          have LY := Lib.hid (below_step HB.out LX.out LX.out.size)
          replace e0 := cell_later HB.out e0
          replace ez : V1.heap.size < Y.heap.size := by have := HB.out.size; omega
          clear e1 e2 HB R2' LX TwoB ColB OneB RowB HSU HSW HAR HRS
          go_wp2
          go_loopw [24, 25] (fun c x wr => ∃ j : Nat, j ≤ n ∧ x = .int .i64 j ∧ OwnI wr Y.heap.size c (List.replicate j (1 + my)) ∧ Below Y.heap.size Y wr) (fun _ x _ => n - (intOf x).toNat)
          case atStart => exact ⟨0, by omega, rfl, OwnI.nil _ _, Below.refl _ _⟩
          case round =>
            obtain ⟨j, hj, rfl, hown, hbl⟩ := hrel
            have y0 := cell_later hbl e0
            have yz0 := hbl.size
            have HO := Lib.hid hown
            have HLi := Lib.hid hbl
            clear hown hbl
            by_cases hj' : j < n
            · have HC := Lib.hid (rep_succ j (1 + my))
              have hml : (List.replicate j (1 + my)).length ≤ 1000000 := by rw [List.length_replicate]; omega
              go_wp2_with (first | (go_at_call 13; (with_reducible refine (HM.out _).mono ?_); rintro e w' ⟨rfl, rfl⟩) | (at_builtin; refine wpList_app1 rfl _ _ rfl Y.heap.size _ _ rfl (HO.out.kept (by repeat' (first | (with_reducible exact Below.refl _ _) | (with_reducible assumption) | (refine below_step (by assumption) ?_ ?_) | (with_reducible refine below_drewN ?_ _) | (with_reducible refine Below.drew ?_) | (with_reducible refine Below.alloc ?_ ?_ _) | (with_reducible refine Below.setCell ?_ ?_ _) | go_size)) (Nat.le_refl _)) wr.heap.size 1 _ rfl (cell_new1 _ _ _) hml (by simp; omega) ?_; intro v' w' hown' hgrow; replace hgrow := app_below HLi.out HO.out hgrow))
              go_roundw
              case rel => exact ⟨j + 1, by omega, by go_num, by rw [HC.out]; exact hown', hgrow⟩
              case measure => simp [intOf]; omega
            · obtain rfl : n = j := by omega
              obtain ⟨Ac, cc, rfl, _, _, _⟩ := HO.out.formN (n := n) (by simp)
              have hce := HCE.out Y wr _ Ac cc (below_step HLi.out LY.out LY.out.size) rfl HO.out
              have HE := Lib.hid hce
              clear hce HCE HAC e0
              go_wp2_with fail
              refine HE.out.mono ?_
              rintro e W6 ⟨rfl, B6⟩
              obtain ⟨bx, ox, rfl, hbx, hcx⟩ := HXS.out
              have L6 := Lib.hid (below_step (below_step B6 HLi.out HLi.out.size) LY.out LY.out.size)
              have y0' := cell_later B6 y0
              have yz : V1.heap.size < W6.heap.size := by have := L6.out.size; have := HLi.out.size; have := B6.size; omega
              have c0 := cell_later L6.out (hcx 0 (by omega))
              have cn := cell_later L6.out (hcx (n - 1) (by omega))
              clear hcx B6 y0 HLi HO LY HE
              go_upto_region 35 with fail
              generalize hVV : W6.alloc (.cells #[.int .i64 ma, .int .i64 mb] 40) = W7
              obtain ⟨k0, k1⟩ := cells_two W6 (.int .i64 ma) (.int .i64 mb) 40
              rw [hVV] at k0 k1
              have B7 : Below W6.heap.size W6 W7 := by rw [← hVV]; repeat' (first | (with_reducible exact Below.refl _ _) | (with_reducible assumption) | (refine below_step (by assumption) ?_ ?_) | (with_reducible refine below_drewN ?_ _) | (with_reducible refine Below.drew ?_) | (with_reducible refine Below.alloc ?_ ?_ _) | (with_reducible refine Below.setCell ?_ ?_ _) | go_size)
              have kz : W6.heap.size < W7.heap.size := by rw [← hVV]; simp
              have p0 := cell_later B7 y0'
              have p1 : W7.cell? ⟨bx, ox, none⟩ = some (.int .i64 (ix xs 0)) := cell_later B7 c0
              have p2 := cell_later B7 cn
              have L7 := Lib.hid (below_step B7 L6.out L6.out.size)
              clear hVV B7 y0' c0 cn L6
              have w1 : IntKind.i64.wrap (ix xs 0 + ix xs (n - 1)) = ix xs 0 + ix xs (n - 1) := IntWalk.i64_in _ ⟨by omega, by omega⟩
              have w2 : IntKind.i64.wrap ((n : Int) - 1) = (n : Int) - 1 := IntWalk.i64_in _ ⟨by omega, by omega⟩
              have w3 : 0 ≤ (n : Int) - 1 := by omega
              have w4 : (n : Int) - 1 < (n : Int) := by omega
              have w5 : 1 ≤ (n : Int) := by omega
              have w6 : ((n : Int) - 1).toNat = n - 1 := by omega
              have w7 : 0 < n := by omega
              have w8 : (0 : Int) < (n : Int) := by omega
              go_cut [28, 29] from 190 to 205 (fun s28 s29 wx => ∃ p : Nat, s28 = .pointer (some ⟨p, 0, none⟩) ∧ s29 = .int .i64 0 ∧ FB W7 ma mb p wx)
              case first =>
                go_region_held3 (fun w' => w'.cell? ⟨V1.heap.size, 0, none⟩ = some (.slice (some ⟨bx, ox, none⟩) n d1) ∧ w'.cell? ⟨bx, ox, none⟩ = some (.int .i64 (ix xs 0)) ∧ w'.cell? ⟨bx, ox + (n - 1), none⟩ = some (.int .i64 (ix xs (n - 1)))) (exact ⟨cell_later (by repeat' (first | (with_reducible exact Below.refl _ _) | (with_reducible assumption) | (refine below_step (by assumption) ?_ ?_) | (with_reducible refine below_drewN ?_ _) | (with_reducible refine Below.drew ?_) | (with_reducible refine Below.alloc ?_ ?_ _) | (with_reducible refine Below.setCell ?_ ?_ _) | go_size)) p0, cell_later (by repeat' (first | (with_reducible exact Below.refl _ _) | (with_reducible assumption) | (refine below_step (by assumption) ?_ ?_) | (with_reducible refine below_drewN ?_ _) | (with_reducible refine Below.drew ?_) | (with_reducible refine Below.alloc ?_ ?_ _) | (with_reducible refine Below.setCell ?_ ?_ _) | go_size)) p1, cell_later (by repeat' (first | (with_reducible exact Below.refl _ _) | (with_reducible assumption) | (refine below_step (by assumption) ?_ ?_) | (with_reducible refine below_drewN ?_ _) | (with_reducible refine Below.drew ?_) | (with_reducible refine Below.alloc ?_ ?_ _) | (with_reducible refine Below.setCell ?_ ?_ _) | go_size)) p2⟩) (first | (go_at_call 22; (with_reducible refine (HMK.out ((W7.alloc (.cells #[.int .i64 0, .int .i64 0] 40)).drew)).mono ?_); rintro e w' ⟨rfl, hb⟩; obtain ⟨hc0, hc1, hf0, hf1, hz, hq, hbb⟩ := newbox hb) | (go_at_call 22; (with_reducible refine (HMK.out W7.drew).mono ?_); rintro e w' ⟨rfl, hb⟩; have hz : W7.heap.size ≤ w'.heap.size := hb.size; have hbb : Below W7.heap.size W7 w' := drew_below hb))
                all_goals go_wp2_with fail
                all_goals go_meet
                all_goals first | exact ⟨_, rfl, rfl, FB.of_first hb⟩ | exact ⟨_, rfl, rfl, FB.of_second hb⟩
              obtain ⟨p, rfl, rfl, hFB⟩ := hcut
              obtain ⟨U, rfl⟩ : ∃ U : World, U = wc := ⟨_, rfl⟩
              have r0 := hFB.c0
              have r1 := hFB.c1
              have k0' := cell_later hFB.below k0
              have k1' := cell_later hFB.below k1
              have HF := Lib.hid (below_step hFB.below L7.out L7.out.size)
              clear hFB p0 p1 p2 k0 k1 w1 w2 w3 w4 w5 w6 w7 w8
              go_wp2_with (go_at_call 16; (with_reducible refine (sane_any _).mono ?_); rintro e w8 ⟨rfl, hb8⟩)
              go_ret
              exact ⟨rfl, below_step (below_step hb8 HF.out HF.out.size) HB1.out HB1.out.size⟩

end Go.Proofs.Ytdlmdaononclgaa
