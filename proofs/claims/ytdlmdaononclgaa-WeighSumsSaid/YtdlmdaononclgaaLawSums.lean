import Derived.Test.YtdlmdaononclgaaOwn3
import Derived.Test.YtdlmdaononclgaaLawParts
import Derived.StillTailTactics
import Derived.Outline
/- WeighSums: the walk. -/
namespace Go.Proofs.Ytdlmdaononclgaa
open Go.RowKit
set_option linter.unusedVariables false
set_option linter.unusedSimpArgs false

theorem AreaS {xs ys : List Int} {a e0 : Int} {n m : Nat} (hr : areaR xs ys = (a, e0)) (hn : xs.length = n) (hm' : ys.length = m) (A : Option Addr) (c : Nat) (A2 : Option Addr) (c2 : Nat) (hc : n ≤ c) (hm : c ≤ 9223372036854775807) (hc2 : m ≤ c2) (hm2 : c2 ≤ 9223372036854775807) (w : World) {B : Nat} (hB : B ≤ w.heap.size) (h : RD w B A (ints xs)) (h2 : RD w B A2 (ints ys)) :
    Calls Try.prog 20 #[.slice A n c, .slice A2 m c2] w fun e w' => e = .returned (.tuple #[.int .i64 a, .int .i64 e0]) ∧ Below w.heap.size w w' := by
  subst hn; subst hm'; exact Area_is xs ys A c A2 c2 hc hm hc2 hm2 hr w hB h h2
theorem MomentS {xs ys : List Int} {ab a e0 : Int} {n m : Nat} (hr : momR xs ys ab = (a, e0)) (hn : xs.length = n) (hm' : ys.length = m) (A : Option Addr) (c : Nat) (A2 : Option Addr) (c2 : Nat) (hc : n ≤ c) (hm : c ≤ 9223372036854775807) (hc2 : m ≤ c2) (hm2 : c2 ≤ 9223372036854775807) (w : World) {B : Nat} (hB : B ≤ w.heap.size) (h : RD w B A (ints xs)) (h2 : RD w B A2 (ints ys)) :
    Calls Try.prog 24 #[.slice A n c, .slice A2 m c2, .int .i64 ab] w fun e w' => e = .returned (.tuple #[.int .i64 a, .int .i64 e0]) ∧ Below w.heap.size w w' := by
  subst hn; subst hm'
  have := Moment_any xs ys A c A2 c2 hc hm hc2 hm2 w (h.more hB) (h2.more hB) ab
  rwa [hr] at this
/-- the boxes of the law's arguments. -/
theorem boxes {w : World} {s1 s2 : Value} {a b c d : Value} {t1 t2 : TypeId} {W : World} (hW : (w.alloc (.cells #[s1, s2] t1)).alloc (.cells #[a, b, c, d] t2) = W) :
    W.cell? ⟨w.heap.size, 0, none⟩ = some s1 ∧ W.cell? ⟨w.heap.size, 1, none⟩ = some s2 ∧ W.cell? ⟨w.heap.size + 1, 0, none⟩ = some a ∧ W.cell? ⟨w.heap.size + 1, 1, none⟩ = some b ∧ W.cell? ⟨w.heap.size + 1, 2, none⟩ = some c ∧ W.cell? ⟨w.heap.size + 1, 3, none⟩ = some d ∧ Below w.heap.size w W ∧ W.heap.size = w.heap.size + 2 := by
  have h1 : W.heap[w.heap.size]? = some (.cells #[s1, s2] t1 (0, 0)) := by
    rw [← hW, Below.heap_alloc _ _ _ (by simp only [World.size_alloc]; omega)]; exact heap_alloc_new w _
  have h2 : W.heap[w.heap.size + 1]? = some (.cells #[a, b, c, d] t2 (0, 0)) := by
    have := heap_alloc_new (w.alloc (.cells #[s1, s2] t1)) (.cells #[a, b, c, d] t2)
    rw [World.size_alloc, hW] at this
    exact this
  refine ⟨?_, ?_, ?_, ?_, ?_, ?_, by rw [← hW]; repeat' (first | (with_reducible exact Below.refl _ _) | (with_reducible assumption) | (refine below_step (by assumption) ?_ ?_) | (with_reducible refine below_drewN ?_ _) | (with_reducible refine Below.drew ?_) | (with_reducible refine Below.alloc ?_ ?_ _) | (with_reducible refine Below.setCell ?_ ?_ _) | go_size), by rw [← hW, World.size_alloc, World.size_alloc]⟩
  · rw [cell_of_row _ _ _ _ _ _ h1]; rfl
  · rw [cell_of_row _ _ _ _ _ _ h1]; rfl
  · rw [cell_of_row _ _ _ _ _ _ h2]; rfl
  · rw [cell_of_row _ _ _ _ _ _ h2]; rfl
  · rw [cell_of_row _ _ _ _ _ _ h2]; rfl
  · rw [cell_of_row _ _ _ _ _ _ h2]; rfl

theorem partE_cases {ps : List Int} (hP : OkP 9 100000 ps) (a : Int) : partE ps a = 0 ∨ partE ps a = 14 := by
  unfold partE; rw [if_pos (okP_mk hP)]; split <;> simp
theorem partE_zero {ps : List Int} {a : Int} (h : partE ps a = 0) : ∃ k : Nat, a = (k : Int) ∧ 1 ≤ k ∧ k + 2 ≤ ps.length ∧ agreeB (ps.take (k + 1)) (ps.drop k) ps = true ∧ partA ps a = ps.take (k + 1) ∧ partB ps a = ps.drop k := by
  have h0 := h
  unfold partE at h
  split at h
  · split at h
    · rename_i hc
      obtain ⟨h1, h2⟩ := hc
      simp only [within, Bool.and_eq_true, decide_eq_true_eq] at h1
      obtain ⟨k, rfl⟩ := Int.eq_ofNat_of_zero_le (show 0 ≤ a by omega)
      rw [Int.toNat_natCast] at h2
      exact ⟨k, rfl, by omega, by omega, h2, by unfold partA; rw [if_pos h0, Int.toNat_natCast], by unfold partB; rw [if_pos h0, Int.toNat_natCast]⟩
    · cases h
  · cases h
theorem join_parts {ps : List Int} (hP : OkP 9 100000 ps) {k : Nat} (h1 : 1 ≤ k) (h2 : k + 2 ≤ ps.length) (hag : agreeB (ps.take (k + 1)) (ps.drop k) ps = true) : joinE (ps.take (k + 1)) (ps.drop k) = 0 ∧ joinV (ps.take (k + 1)) (ps.drop k) = ps := by
  have hj : joinL (ps.take (k + 1)) (ps.drop k) = ps := parts_back ps k (by omega)
  have hl : (ps.take (k + 1)).length = k + 1 := by rw [List.length_take]; omega
  have he : joinE (ps.take (k + 1)) (ps.drop k) = 0 := by
    unfold joinE
    rw [hj, if_pos ⟨okP_mk (ok_take hP h1 (by omega)), okP_mk (ok_drop hP h2)⟩, if_pos (by rw [hl, ix_take (by omega), ix_drop]; rfl), if_pos (okP_mk hP), if_pos hag]
  exact ⟨he, by unfold joinV; rw [if_pos he, hj]⟩
set_option maxHeartbeats 8000000 in
set_option maxRecDepth 100000 in
theorem weighSums_walk (sx ya yb : List Int) (A1 : Option Addr) (c1 : Nat) (A2 : Option Addr) (c2 : Nat) (A3 : Option Addr) (c3 : Nat) (hc1 : sx.length ≤ c1) (hm1 : c1 ≤ 17592186043904) (hc2 : ya.length ≤ c2) (hm2 : c2 ≤ 17592186043904) (hc3 : yb.length ≤ c3) (hm3 : c3 ≤ 17592186043904)
    (n0 n1 n2 n3 : Int) (b0 : -9223372036854775808 ≤ n0 ∧ n0 ≤ 9223372036854775807) (b1 : -9223372036854775808 ≤ n1 ∧ n1 ≤ 9223372036854775807) (b2 : -9223372036854775808 ≤ n2 ∧ n2 ≤ 9223372036854775807) (b3 : -9223372036854775808 ≤ n3 ∧ n3 ≤ 9223372036854775807) (w : World)
    (h1 : RD w w.heap.size A1 (ints sx)) (h2 : RD w w.heap.size A2 (ints ya)) (h3 : RD w w.heap.size A3 (ints yb)) (bd1 : ∀ j, -9223372036854775808 ≤ ix sx j ∧ ix sx j ≤ 9223372036854775807) (bd2 : ∀ j, -9223372036854775808 ≤ ix ya j ∧ ix ya j ≤ 9223372036854775807) (bd3 : ∀ j, -9223372036854775808 ≤ ix yb j ∧ ix yb j ≤ 9223372036854775807) :
    Calls Try.prog 11 #[.slice A1 sx.length c1, .agg #[.slice A2 ya.length c2, .slice A3 yb.length c3], .agg #[.int .i64 n0, .int .i64 n1, .int .i64 n2, .int .i64 n3]] w fun e w' => e = .returned (.bool true) ∧ Below w.heap.size w w' := by
  have HPL : Hid (∀ W, Below w.heap.size w W → Calls Try.prog 12 #[.slice A1 sx.length c1, .int .i64 9, .int .i64 3000] W (RetPl 9 3000 W)) := Lib.hid (fun W hb => Places_any sx A1 c1 9 3000 (by omega) (by omega) (by omega) (by omega) hc1 hm1 W ((h1.keep hb (Nat.le_refl _)).more hb.size) bd1)
  have HYA : Hid (∀ W k, Below w.heap.size w W → k ≤ 1000 → Calls Try.prog 58 #[.slice A2 ya.length c2, .int .i64 ((k : Nat) : Int)] W fun e w' => e = .returned (.int .i64 (atZ ya (k : Int))) ∧ W = w') := Lib.hid (fun W k hb hk => At_is rfl A2 c2 (by omega) (by omega) hc2 hm2 W (h2.keep hb (Nat.le_refl _)))
  have HYB : Hid (∀ W k, Below w.heap.size w W → k ≤ 1000 → Calls Try.prog 58 #[.slice A3 yb.length c3, .int .i64 ((k : Nat) : Int)] W fun e w' => e = .returned (.int .i64 (atZ yb (k : Int))) ∧ W = w') := Lib.hid (fun W k hb hk => At_is rfl A3 c3 (by omega) (by omega) hc3 hm3 W (h3.keep hb (Nat.le_refl _)))
  have HMA : Hid (∀ W k, Calls Try.prog 13 #[.int .i64 (atZ ya k), .int .i64 2001] W fun e w' => e = .returned (.int .i64 (atZ ya k % 2001)) ∧ W = w') := Lib.hid (fun W k => mod_is rfl (atZ_bd bd2).1 (atZ_bd bd2).2 (by omega) (by omega) W)
  have HMB : Hid (∀ W k, Calls Try.prog 13 #[.int .i64 (atZ yb k), .int .i64 2001] W fun e w' => e = .returned (.int .i64 (atZ yb k % 2001)) ∧ W = w') := Lib.hid (fun W k => mod_is rfl (atZ_bd bd3).1 (atZ_bd bd3).2 (by omega) (by omega) W)
  obtain ⟨m0, hm0⟩ : ∃ m, n0 % 19 = m := ⟨_, rfl⟩
  obtain ⟨m1, hm1'⟩ : ∃ m, n1 % 19 = m := ⟨_, rfl⟩
  obtain ⟨ab, hab⟩ : ∃ m, n2 % 100001 = m := ⟨_, rfl⟩
  have M0 : Hid (∀ W, Calls Try.prog 13 #[.int .i64 n0, .int .i64 19] W fun e w' => e = .returned (.int .i64 m0) ∧ W = w') := Lib.hid (mod_is hm0 b0.1 b0.2 (by omega) (by omega))
  have M1 : Hid (∀ W, Calls Try.prog 13 #[.int .i64 n1, .int .i64 19] W fun e w' => e = .returned (.int .i64 m1) ∧ W = w') := Lib.hid (mod_is hm1' b1.1 b1.2 (by omega) (by omega))
  have M2 : Hid (∀ W, Calls Try.prog 13 #[.int .i64 n2, .int .i64 100001] W fun e w' => e = .returned (.int .i64 ab) ∧ W = w') := Lib.hid (mod_is hab b2.1 b2.2 (by omega) (by omega))
  have r0 : 0 ≤ m0 := by omega
  have r01 : m0 ≤ 18 := by omega
  have r1 : 0 ≤ m1 := by omega
  have r11 : m1 ≤ 18 := by omega
  have r2 : 0 ≤ ab := by omega
  have r21 : ab ≤ 100000 := by omega
  have BN3 := Lib.hid b3
  clear hm0 hm1' hab b0 b1 b2 b3 h1 h2 h3 bd1 bd2 bd3
  go_enter Try.func11, Try.ntmps11
  go_wp2_with fail
  generalize hW : (w.alloc (.cells #[.slice A2 ya.length c2, .slice A3 yb.length c3] 70)).alloc (.cells #[.int .i64 n0, .int .i64 n1, .int .i64 n2, .int .i64 n3] 71) = W0
  obtain ⟨d0, d1, e0, e1, e2, e3, hB0, hz0⟩ := boxes hW
  have hz0' : w.heap.size + 1 < W0.heap.size := by omega
  clear hW hz0
  refine (HPL.out _ hB0).mono ?_
  rintro e V1 ⟨ps, v, rfl, hown, hpl, hl2, hbl⟩
  obtain ⟨A4, k4, rfl, hk4, hkm4, _⟩ := hown.formN rfl
  have hP : OkP 9 100000 ps := hpl.okP hl2 (by omega) (by omega)
  have h9 := hP.many
  obtain ⟨n, hn⟩ : ∃ n, ps.length = n := ⟨_, rfl⟩
  rw [hn] at hl2 h9 hk4
  rw [hn]
  have HN := Lib.hid hn
  have HP := Lib.hid hP
  have O1 := Lib.hid hown
  have L1 := Lib.hid (below_step hbl hB0 hB0.size)
  replace d0 := cell_later hbl d0
  replace d1 := cell_later hbl d1
  replace e0 := cell_later hbl e0
  replace e1 := cell_later hbl e1
  replace e2 := cell_later hbl e2
  replace e3 := cell_later hbl e3
  replace hz0' : w.heap.size + 1 < V1.heap.size := by have := hbl.size; omega
  have hzV : W0.heap.size ≤ V1.heap.size := hbl.size
  obtain ⟨ws, hws⟩ : ∃ l, weightsZ ps = l := ⟨_, rfl⟩
  have wl : ws.length = n := by rw [← hws, weightsZ_length, hn]
  have HWS := Lib.hid hws
  have HWL := Lib.hid wl
  clear hown hpl hbl hn hP hB0 hws wl HPL
  go_wp2_with fail
  refine (Weights_is (okP_mk HP.out) HWS.out HN.out HWL.out A4 k4 hk4 hkm4 V1 O1.out.rd).mono ?_
  rintro e V2 ⟨g, rfl, hg, harr, hb⟩
  have L2 := Lib.hid (below_step hb L1.out L1.out.size)
  have O2 := Lib.hid (O1.out.kept hb (Nat.le_refl _))
  have HAR := Lib.hid harr
  replace d0 := cell_later hb d0
  replace d1 := cell_later hb d1
  replace e0 := cell_later hb e0
  replace e1 := cell_later hb e1
  replace e2 := cell_later hb e2
  replace e3 := cell_later hb e3
  replace hz0' : w.heap.size + 1 < V2.heap.size := by have := hb.size; omega
  have gz := harr.lt
  clear hb L1 O1 harr hzV hg
  go_wp2_with (first | (go_at_call 13; (with_reducible refine (M0.out _).mono ?_); rintro e w' ⟨rfl, rfl⟩) | (go_at_call 13; (with_reducible refine (M1.out _).mono ?_); rintro e w' ⟨rfl, rfl⟩) | (go_at_call 13; (with_reducible refine (M2.out _).mono ?_); rintro e w' ⟨rfl, rfl⟩))
  obtain ⟨p, hp⟩ : ∃ p, m0 - 9 = p := ⟨_, rfl⟩
  obtain ⟨q, hq⟩ : ∃ q, m1 - 9 = q := ⟨_, rfl⟩
  rw [hp, hq]
  have p0 : -9 ≤ p := by omega
  have p1 : p ≤ 9 := by omega
  have q0 : -9 ≤ q := by omega
  have q1 : q ≤ 9 := by omega
  clear hp hq r0 r01 r1 r11 M0 M1 M2 e0 e1 e2
  go_loopw [12, 13, 14, 15, 16] (fun va vb vc s x wr => ∃ k : Nat, k ≤ n ∧ x = .int .i64 k ∧ s = .int .i64 (sm ws (fun _ => 1) k) ∧ Own3 wr V2.heap.size va (ordL ya k) vb (ordL yb k) vc (linL p q (ordL ya k) (ordL yb k) k) ∧ Below V2.heap.size V2 wr) (fun _ _ _ _ x _ => n - (intOf x).toNat)
  case atStart => exact ⟨0, by omega, rfl, rfl, Own3.nil _ _, Below.refl _ _⟩
  case round =>
    obtain ⟨k, hk, rfl, rfl, hown, hB⟩ := hrel
    have LR := Lib.hid hB
    have y0 := cell_later hB d0
    have y1 := cell_later hB d1
    have hzr := hB.size
    have OO := Lib.hid hown
    clear hB hown
    by_cases hk' : k < n
    · have yw := cell_later LR.out (HAR.out.cell (j := k) (by rw [HWL.out]; exact hk'))
      have bwW := Lib.hid (below_step LR.out L2.out L2.out.size)
      obtain ⟨a, ha⟩ : ∃ a, atZ ya (k : Int) % 2001 = a := ⟨_, rfl⟩
      obtain ⟨b, hb⟩ : ∃ b, atZ yb (k : Int) % 2001 = b := ⟨_, rfl⟩
      have a0 : 0 ≤ a := by omega
      have a1 : a ≤ 2000 := by omega
      have b0 : 0 ≤ b := by omega
      have b1 : b ≤ 2000 := by omega
      have hsB := sm_bdC (ws := ws) (f := fun _ => 1) (n := k) (M := 1) (C := 4800000) (by omega) (by have h1 := wsum_bd HP.out HN.out; rw [HWS.out] at h1; have := sA_mono ws hk; omega) (fun _ _ => by omega)
      obtain ⟨s0, s1⟩ := hsB
      have hwB := sA_at ws hk'
      have hwB2 := wsum_bd HP.out HN.out
      rw [HWS.out] at hwB2
      have ww0 : -4800000 ≤ ix ws k := by omega
      have ww1 : ix ws k ≤ 4800000 := by omega
      have HS := Lib.hid (show sm ws (fun _ => 1) (k + 1) = sm ws (fun _ => 1) k + ix ws k by rw [sm]; omega)
      have HAT : Hid (∀ W, Below V2.heap.size V2 W → Calls Try.prog 58 #[.slice A2 ya.length c2, .int .i64 (k : Int)] W fun e w' => e = .returned (.int .i64 (atZ ya (k : Int))) ∧ W = w') := Lib.hid (fun W hW => HYA.out W k (below_step hW L2.out L2.out.size) (by omega))
      have HBT : Hid (∀ W, Below V2.heap.size V2 W → Calls Try.prog 58 #[.slice A3 yb.length c3, .int .i64 (k : Int)] W fun e w' => e = .returned (.int .i64 (atZ yb (k : Int))) ∧ W = w') := Lib.hid (fun W hW => HYB.out W k (below_step hW L2.out L2.out.size) (by omega))
      have HAM : Hid (∀ W, Calls Try.prog 13 #[.int .i64 (atZ ya (k : Int)), .int .i64 2001] W fun e w' => e = .returned (.int .i64 a) ∧ W = w') := Lib.hid (fun W => by have := HMA.out W (k : Int); rwa [ha] at this)
      have HBM : Hid (∀ W, Calls Try.prog 13 #[.int .i64 (atZ yb (k : Int)), .int .i64 2001] W fun e w' => e = .returned (.int .i64 b) ∧ W = w') := Lib.hid (fun W => by have := HMB.out W (k : Int); rwa [hb] at this)
      have EA := Lib.hid (show ordL ya (k + 1) = ordL ya k ++ [a - 1000] by rw [ordL_succ, ha])
      have EB := Lib.hid (show ordL yb (k + 1) = ordL yb k ++ [b - 1000] by rw [ordL_succ, hb])
      have la : (ordL ya k).length ≤ 1000000 := by rw [ordL_length]; omega
      have lb : (ordL yb k).length ≤ 1000000 := by rw [ordL_length]; omega
      have EC := Lib.hid (show linL p q (ordL ya (k + 1)) (ordL yb (k + 1)) (k + 1) = linL p q (ordL ya k) (ordL yb k) k ++ [p * (a - 1000) + q * (b - 1000)] by
        rw [linL_next, ha, hb])
      have IA := Lib.hid (show ix (ordL ya (k + 1)) k = a - 1000 by rw [ordL_ix (by omega), ha])
      have IB := Lib.hid (show ix (ordL yb (k + 1)) k = b - 1000 by rw [ordL_ix (by omega), hb])
      obtain ⟨⟨t0, t1⟩, t2, t3⟩ := lin_bd (p := p) (q := q) (x := a - 1000) (y := b - 1000) ⟨p0, p1⟩ ⟨q0, q1⟩ (by omega) (by omega)
      have x1 : IntKind.i64.wrap (p * (a - 1000)) = p * (a - 1000) := IntWalk.i64_in _ ⟨by omega, by omega⟩
      have x2 : IntKind.i64.wrap (q * (b - 1000)) = q * (b - 1000) := IntWalk.i64_in _ ⟨by omega, by omega⟩
      have x3 : IntKind.i64.wrap (p * (a - 1000) + q * (b - 1000)) = p * (a - 1000) + q * (b - 1000) := IntWalk.i64_in _ ⟨by omega, by omega⟩
      have lc : (linL p q (ordL ya k) (ordL yb k) k).length ≤ 1000000 := by rw [linL_length]; omega
      clear ha hb hwB hwB2 bwW t0 t1 t2 t3
      go_wp2_with (first | (go_at_call 58; (with_reducible refine (HAT.out _ LR.out).mono ?_); rintro e w' ⟨rfl, rfl⟩) | (go_at_call 13; (with_reducible refine (HAM.out _).mono ?_); rintro e w' ⟨rfl, rfl⟩) | (at_builtin; refine wpList_app2 rfl (.tmp 82) (.tmp 89) rfl V2.heap.size _ _ rfl (OO.out.o12.o1.kept (by repeat' (first | (with_reducible exact Below.refl _ _) | (with_reducible assumption) | (refine below_step (by assumption) ?_ ?_) | (with_reducible refine below_drewN ?_ _) | (with_reducible refine Below.drew ?_) | (with_reducible refine Below.alloc ?_ ?_ _) | (with_reducible refine Below.setCell ?_ ?_ _) | go_size)) (Nat.le_refl _)) wr.heap.size 1 _ rfl (cell_new1 _ _ _) la (by simp; omega) ?_; intro v1 W1 hown1 hg1 hb1; have LB1 := Lib.hid (app_below LR.out OO.out.o12.o1 hg1); have N1 := Lib.hid ((OO.out.kept (Below.alloc (Below.refl _ _) (Nat.le_refl _) _) (Nat.le_refl _)).app1 hown1 hg1 hb1); have y1' := cell_later LB1.out d1; have hz1 := LB1.out.size; clear hown1 hg1 hb1) | (go_at_call 58; (with_reducible refine (HBT.out _ LB1.out).mono ?_); rintro e w' ⟨rfl, rfl⟩) | (go_at_call 13; (with_reducible refine (HBM.out _).mono ?_); rintro e w' ⟨rfl, rfl⟩) | (at_builtin; refine wpList_app2 rfl (.tmp 91) (.tmp 98) rfl V2.heap.size _ _ rfl (N1.out.o23.o1.kept (by repeat' (first | (with_reducible exact Below.refl _ _) | (with_reducible assumption) | (refine below_step (by assumption) ?_ ?_) | (with_reducible refine below_drewN ?_ _) | (with_reducible refine Below.drew ?_) | (with_reducible refine Below.alloc ?_ ?_ _) | (with_reducible refine Below.setCell ?_ ?_ _) | go_size)) (Nat.le_refl _)) W1.heap.size 1 _ rfl (cell_new1 _ _ _) lb (by simp; omega) ?_; intro v2 W2 hown2 hg2 hb2; have LB2 := Lib.hid (app_below LB1.out N1.out.o23.o1 hg2); have N2 := Lib.hid ((N1.out.kept (Below.alloc (Below.refl _ _) (Nat.le_refl _) _) (Nat.le_refl _)).app2 hown2 hg2 hb2); have hz2 := LB2.out.size; clear hown2 hg2 hb2))
      obtain ⟨kk, hkk⟩ : ∃ m, k + 1 = m := ⟨_, rfl⟩
      obtain ⟨A5, k5, rfl, hk5, hkm5, hrd5⟩ := N2.out.o12.o1.formN (n := kk) (by rw [List.length_append, ordL_length]; exact hkk)
      obtain ⟨A6, k6, rfl, hk6, hkm6, hrd6⟩ := N2.out.o23.o1.formN (n := kk) (by rw [List.length_append, ordL_length]; exact hkk)
      rw [← EA.out] at hrd5
      rw [← EB.out] at hrd6
      obtain ⟨g5, f5, rfl, hg5, hc5'⟩ := hrd5.ints (by rw [ordL_length]; omega)
      obtain ⟨g6, f6, rfl, hg6, hc6'⟩ := hrd6.ints (by rw [ordL_length]; omega)
      have c5 := hc5' k (by rw [ordL_length]; omega)
      have c6 := hc6' k (by rw [ordL_length]; omega)
      rw [IA.out] at c5
      rw [IB.out] at c6
      have f1 : k < kk := by omega
      have f2 : (k : Int) < (kk : Int) := by omega
      have f3 : (0 : Int) ≤ (k : Int) := by omega
      have HKK := Lib.hid hkk
      clear hrd5 hrd6 hc5' hc6' hkk
      go_region_held3 (fun w' => w'.cell? ⟨g5, f5 + k, none⟩ = some (.int .i64 (a - 1000)) ∧ w'.cell? ⟨g6, f6 + k, none⟩ = some (.int .i64 (b - 1000))) (first | exact ⟨c5', c6'⟩ | exact ⟨cell_later (by repeat' (first | (with_reducible exact Below.refl _ _) | (with_reducible assumption) | (refine below_step (by assumption) ?_ ?_) | (with_reducible refine below_drewN ?_ _) | (with_reducible refine Below.drew ?_) | (with_reducible refine Below.alloc ?_ ?_ _) | (with_reducible refine Below.setCell ?_ ?_ _) | go_size)) c5, cell_later (by repeat' (first | (with_reducible exact Below.refl _ _) | (with_reducible assumption) | (refine below_step (by assumption) ?_ ?_) | (with_reducible refine below_drewN ?_ _) | (with_reducible refine Below.drew ?_) | (with_reducible refine Below.alloc ?_ ?_ _) | (with_reducible refine Below.setCell ?_ ?_ _) | go_size)) c6⟩) ((refine op_app2 rfl (.tmp 100) (.tmp 114) rfl V2.heap.size _ _ rfl (N2.out.o23.o2.kept (by repeat' (first | (with_reducible exact Below.refl _ _) | (with_reducible assumption) | (refine below_step (by assumption) ?_ ?_) | (with_reducible refine below_drewN ?_ _) | (with_reducible refine Below.drew ?_) | (with_reducible refine Below.alloc ?_ ?_ _) | (with_reducible refine Below.setCell ?_ ?_ _) | go_size)) (Nat.le_refl _)) W2.heap.size 1 (p * (a - 1000) + q * (b - 1000)) rfl (by simp [go_sem]) lc (by simp; omega) ?_; intro v3 W3 hown3 hg3 hb3; have c5' := hg3.cell (cell_later (by repeat' (first | (with_reducible exact Below.refl _ _) | (with_reducible assumption) | (refine below_step (by assumption) ?_ ?_) | (with_reducible refine below_drewN ?_ _) | (with_reducible refine Below.drew ?_) | (with_reducible refine Below.alloc ?_ ?_ _) | (with_reducible refine Below.setCell ?_ ?_ _) | go_size)) c5) (fun e => N2.out.o13.ne g5 rfl e.symm); have c6' := hg3.cell (cell_later (by repeat' (first | (with_reducible exact Below.refl _ _) | (with_reducible assumption) | (refine below_step (by assumption) ?_ ?_) | (with_reducible refine below_drewN ?_ _) | (with_reducible refine Below.drew ?_) | (with_reducible refine Below.alloc ?_ ?_ _) | (with_reducible refine Below.setCell ?_ ?_ _) | go_size)) c6) (fun e => N2.out.o23.ne g6 rfl e.symm)))
      have LB3 : Hid (Below V2.heap.size V2 W3) := Lib.hid (((LB2.out.alloc LB2.out.size _).drew).grown hg3 (by simp only [World.size_alloc, World.size_drew]; omega) (fun j e => (N2.out.o23.o2.at_block e).1))
      have N3 := Lib.hid ((N2.out.kept (B := W2.heap.size) (by repeat' (first | (with_reducible exact Below.refl _ _) | (with_reducible assumption) | (refine below_step (by assumption) ?_ ?_) | (with_reducible refine below_drewN ?_ _) | (with_reducible refine Below.drew ?_) | (with_reducible refine Below.alloc ?_ ?_ _) | (with_reducible refine Below.setCell ?_ ?_ _) | go_size)) (Nat.le_refl _)).app3 hown3 hg3 hb3)
      clear hown3 hg3 hb3 c5 c6 c5' c6' x1 x2 x3
      go_wp2
      go_roundw
      case rel => exact ⟨k + 1, by omega, by go_num, by rw [HS.out], by rw [EC.out, EA.out, EB.out]; exact N3.out, LB3.out⟩
      case measure => simp [intOf]; omega
    · obtain rfl : n = k := by omega
      obtain ⟨X, rfl⟩ : ∃ X : World, X = wr := ⟨_, rfl⟩
      obtain ⟨al, hal⟩ : ∃ l, ordL ya n = l := ⟨_, rfl⟩
      obtain ⟨bl, hbl⟩ : ∃ l, ordL yb n = l := ⟨_, rfl⟩
      have ba : ∀ j, -1000 ≤ ix al j ∧ ix al j ≤ 1000 := by rw [← hal]; exact ordL_bd ya n
      have bb : ∀ j, -1000 ≤ ix bl j ∧ ix bl j ≤ 1000 := by rw [← hbl]; exact ordL_bd yb n
      have la : al.length = n := by rw [← hal, ordL_length]
      have lb : bl.length = n := by rw [← hbl, ordL_length]
      obtain ⟨cl, hcl⟩ : ∃ l, linL p q al bl n = l := ⟨_, rfl⟩
      have lc : cl.length = n := by rw [← hcl, linL_length]
      have bc : ∀ j, -20000 ≤ ix cl j ∧ ix cl j ≤ 20000 := fun j => by
        by_cases hj : j < n
        · rw [← hcl, linL_ix hj]
          have := lin_bd (x := ix al j) (y := ix bl j) ⟨p0, p1⟩ ⟨q0, q1⟩ (ba j) (bb j)
          omega
        · rw [ix_out (by omega)]; omega
      have hO := OO.out
      rw [hal, hbl, hcl] at hO
      obtain ⟨A5, k5, rfl, hk5, hkm5, hrd5⟩ := hO.o12.o1.formN la
      obtain ⟨A6, k6, rfl, hk6, hkm6, hrd6⟩ := hO.o23.o1.formN lb
      obtain ⟨A7, k7, rfl, hk7, hkm7, hrd7⟩ := hO.o23.o2.formN lc
      have hrp : RD X X.heap.size A4 (ints ps) := (O2.out.kept LR.out (Nat.le_refl _)).rd
      have hP := HP.out
      have hn := HN.out
      have hS := sum_all hP hn
      have e1 := area_lin (ps := ps) (a := al) (b := bl) (n := n) (p := p) (q := q)
      have e2 := mom_lin (ps := ps) (a := al) (b := bl) (n := n) (p := p) (q := q) (ab := ab)
      rw [hcl] at e1 e2
      have s1 := area_small hP hn ba
      have s2 := area_small hP hn bb
      have s3 := mom_small hP hn ba r2 r21
      have s4 := mom_small hP hn bb r2 r21
      have v1 := areaV (ys := al) hP (la.trans hn.symm) (fun j => by have := ba j; omega)
      have v2 := areaV (ys := bl) hP (lb.trans hn.symm) (fun j => by have := bb j; omega)
      have v3 := areaV (ys := cl) hP (lc.trans hn.symm) bc
      have v4 := momV (ys := al) (ab := ab) hP (la.trans hn.symm) (fun j => by have := ba j; omega) r2 r21
      have v5 := momV (ys := bl) (ab := ab) hP (lb.trans hn.symm) (fun j => by have := bb j; omega) r2 r21
      have v6 := momV (ys := cl) (ab := ab) hP (lc.trans hn.symm) bc r2 r21
      rw [hn] at v1 v2 v3 v4 v5 v6
      obtain ⟨xv, hxv⟩ : ∃ x, sm (weightsZ ps) (fun j => ix al j) n = x := ⟨_, rfl⟩
      obtain ⟨uv, huv⟩ : ∃ x, sm (weightsZ ps) (fun j => ix bl j) n = x := ⟨_, rfl⟩
      obtain ⟨vv, hvv⟩ : ∃ x, sm (weightsZ ps) (fun j => ix cl j) n = x := ⟨_, rfl⟩
      obtain ⟨rv, hrv⟩ : ∃ x, sm (weightsZ ps) (fun j => ix al j * (ix ps j - ab)) n = x := ⟨_, rfl⟩
      obtain ⟨sv, hsv⟩ : ∃ x, sm (weightsZ ps) (fun j => ix bl j * (ix ps j - ab)) n = x := ⟨_, rfl⟩
      obtain ⟨tv, htv⟩ : ∃ x, sm (weightsZ ps) (fun j => ix cl j * (ix ps j - ab)) n = x := ⟨_, rfl⟩
      obtain ⟨S, hSv⟩ : ∃ x, sm (weightsZ ps) (fun _ => 1) n = x := ⟨_, rfl⟩
      rw [← HWS.out, hSv]
      rw [hSv] at hS
      rw [hvv, hxv, huv] at e1
      rw [htv, hrv, hsv] at e2
      rw [hxv] at s1 v1
      rw [huv] at s2 v2
      rw [hvv] at v3
      rw [hrv] at s3 v4
      rw [hsv] at s4 v5
      rw [htv] at v6
      have HA1 : Hid (∀ W, Below X.heap.size X W → Calls Try.prog 20 #[.slice A4 n k4, .slice A5 n k5] W fun e w' => e = .returned (.tuple #[.int .i64 xv, .int .i64 0]) ∧ Below W.heap.size W w') := Lib.hid (fun W hB => AreaS v1 hn la A4 k4 A5 k5 hk4 hkm4 hk5 hkm5 W hB.size (hrp.keep hB (Nat.le_refl _)) (hrd5.keep hB (Nat.le_refl _)))
      have HA2 : Hid (∀ W, Below X.heap.size X W → Calls Try.prog 20 #[.slice A4 n k4, .slice A6 n k6] W fun e w' => e = .returned (.tuple #[.int .i64 uv, .int .i64 0]) ∧ Below W.heap.size W w') := Lib.hid (fun W hB => AreaS v2 hn lb A4 k4 A6 k6 hk4 hkm4 hk6 hkm6 W hB.size (hrp.keep hB (Nat.le_refl _)) (hrd6.keep hB (Nat.le_refl _)))
      have HA3 : Hid (∀ W, Below X.heap.size X W → Calls Try.prog 20 #[.slice A4 n k4, .slice A7 n k7] W fun e w' => e = .returned (.tuple #[.int .i64 vv, .int .i64 0]) ∧ Below W.heap.size W w') := Lib.hid (fun W hB => AreaS v3 hn lc A4 k4 A7 k7 hk4 hkm4 hk7 hkm7 W hB.size (hrp.keep hB (Nat.le_refl _)) (hrd7.keep hB (Nat.le_refl _)))
      have HM1 : Hid (∀ W, Below X.heap.size X W → Calls Try.prog 24 #[.slice A4 n k4, .slice A5 n k5, .int .i64 ab] W fun e w' => e = .returned (.tuple #[.int .i64 rv, .int .i64 0]) ∧ Below W.heap.size W w') := Lib.hid (fun W hB => MomentS v4 hn la A4 k4 A5 k5 hk4 hkm4 hk5 hkm5 W hB.size (hrp.keep hB (Nat.le_refl _)) (hrd5.keep hB (Nat.le_refl _)))
      have HM2 : Hid (∀ W, Below X.heap.size X W → Calls Try.prog 24 #[.slice A4 n k4, .slice A6 n k6, .int .i64 ab] W fun e w' => e = .returned (.tuple #[.int .i64 sv, .int .i64 0]) ∧ Below W.heap.size W w') := Lib.hid (fun W hB => MomentS v5 hn lb A4 k4 A6 k6 hk4 hkm4 hk6 hkm6 W hB.size (hrp.keep hB (Nat.le_refl _)) (hrd6.keep hB (Nat.le_refl _)))
      have HM3 : Hid (∀ W, Below X.heap.size X W → Calls Try.prog 24 #[.slice A4 n k4, .slice A7 n k7, .int .i64 ab] W fun e w' => e = .returned (.tuple #[.int .i64 tv, .int .i64 0]) ∧ Below W.heap.size W w') := Lib.hid (fun W hB => MomentS v6 hn lc A4 k4 A7 k7 hk4 hkm4 hk7 hkm7 W hB.size (hrp.keep hB (Nat.le_refl _)) (hrd7.keep hB (Nat.le_refl _)))
      obtain ⟨⟨x0, x1⟩, x2, x3⟩ := lin_small (p := p) (q := q) (x := xv) (u := uv) (M := 4800000000) ⟨p0, p1⟩ ⟨q0, q1⟩ (by omega) s1 s2
      obtain ⟨⟨x4, x5⟩, x6, x7⟩ := lin_small (p := p) (q := q) (x := rv) (u := sv) (M := 480000000000000) ⟨p0, p1⟩ ⟨q0, q1⟩ (by omega) s3 s4
      have HRP := Lib.hid hrp
      have HRA := Lib.hid hrd5
      have HLA := Lib.hid la
      have HBA := Lib.hid ba
      obtain ⟨bp, op, rfl, hbp, hcp⟩ := hrp.ints (by omega)
      rw [hn] at hcp
      have c0 : X.cell? ⟨bp, op, none⟩ = some (.int .i64 (ix ps 0)) := hcp 0 (by omega)
      have cn := hcp (n - 1) (by omega)
      have l0 := hP.lo 0 (by omega)
      have l1 := hP.hi' 0 (by omega)
      have l2 := hP.lo (n - 1) (by omega)
      have l3 := hP.hi' (n - 1) (by omega)
      have W1 : Hid (IntKind.i64.wrap (ix ps (n - 1) - ix ps 0) = ix ps (n - 1) - ix ps 0) := Lib.hid (IntWalk.i64_in _ ⟨by omega, by omega⟩)
      have W2 : Hid (IntKind.i64.wrap (36 * (ix ps (n - 1) - ix ps 0)) = S) := Lib.hid (by rw [IntWalk.i64_in _ ⟨by omega, by omega⟩]; exact hS.symm)
      have W3 : Hid (IntKind.i64.wrap (p * xv) = p * xv) := Lib.hid (IntWalk.i64_in _ ⟨by omega, by omega⟩)
      have W4 : Hid (IntKind.i64.wrap (q * uv) = q * uv) := Lib.hid (IntWalk.i64_in _ ⟨by omega, by omega⟩)
      have W5 : Hid (IntKind.i64.wrap (p * xv + q * uv) = vv) := Lib.hid (by rw [IntWalk.i64_in _ ⟨by omega, by omega⟩]; exact e1.symm)
      have W6 : Hid (IntKind.i64.wrap (p * rv) = p * rv) := Lib.hid (IntWalk.i64_in _ ⟨by omega, by omega⟩)
      have W7 : Hid (IntKind.i64.wrap (q * sv) = q * sv) := Lib.hid (IntWalk.i64_in _ ⟨by omega, by omega⟩)
      have W8 : Hid (IntKind.i64.wrap (p * rv + q * sv) = tv) := Lib.hid (by rw [IntWalk.i64_in _ ⟨by omega, by omega⟩]; exact e2.symm)
      have LX := Lib.hid (below_step LR.out L2.out L2.out.size)
      have LZ : Hid (Below X.heap.size X X) := Lib.hid (Below.refl _ _)
      have E3 := Lib.hid (cell_later LR.out e3)
      have HXV := Lib.hid hxv
      have HRV := Lib.hid hrv
      clear hal hbl ba bb la lb hcl lc bc hO hrd5 hrd6 hrd7 hrp hP hn hS e1 e2 s1 s2 s3 s4 v1 v2 v3 v4 v5 v6 hxv huv hvv hrv hsv htv hSv x0 x1 x2 x3 x4 x5 x6 x7 hcp l0 l1 l2 l3 HMA HMB HYA HYB OO LR y0 y1 d0 d1 e3 O2 HAR gz
      go_wp2_with fail
      refine (HA1.out _ LZ.out).mono ?_
      rintro e Y1 ⟨rfl, hb⟩
      have Z1 := Lib.hid (below_step hb LZ.out LZ.out.size)
      clear hb LZ
      go_wp2_with fail
      refine (HA2.out _ Z1.out).mono ?_
      rintro e Y2 ⟨rfl, hb⟩
      have Z2 := Lib.hid (below_step hb Z1.out Z1.out.size)
      clear hb Z1
      go_wp2_with fail
      refine (HA3.out _ Z2.out).mono ?_
      rintro e Y3 ⟨rfl, hb⟩
      have Z3 := Lib.hid (below_step hb Z2.out Z2.out.size)
      clear hb Z2
      go_wp2_with fail
      refine (HM1.out _ Z3.out).mono ?_
      rintro e Y4 ⟨rfl, hb⟩
      have Z4 := Lib.hid (below_step hb Z3.out Z3.out.size)
      clear hb Z3
      go_wp2_with fail
      refine (HM2.out _ Z4.out).mono ?_
      rintro e Y5 ⟨rfl, hb⟩
      have Z5 := Lib.hid (below_step hb Z4.out Z4.out.size)
      clear hb Z4
      go_wp2_with fail
      refine (HM3.out _ Z5.out).mono ?_
      rintro e Y6 ⟨rfl, hb⟩
      have Z6 := Lib.hid (below_step hb Z5.out Z5.out.size)
      clear hb Z5
      replace c0 := cell_later Z6.out c0
      replace cn := cell_later Z6.out cn
      have w1 := W1.out
      have w2 := W2.out
      have w3 := W3.out
      have w4 := W4.out
      have w5 := W5.out
      have w6 := W6.out
      have w7 := W7.out
      have w8 := W8.out
      have g1 : IntKind.i64.wrap ((n : Int) - 1) = (n : Int) - 1 := IntWalk.i64_in _ ⟨by omega, by omega⟩
      have g2 : 0 ≤ (n : Int) - 1 := by omega
      have g3 : (n : Int) - 1 < (n : Int) := by omega
      have g4 : 1 ≤ (n : Int) := by omega
      have g5 : ((n : Int) - 1).toNat = n - 1 := by omega
      have g6 : 0 < n := by omega
      have g7 : (0 : Int) < (n : Int) := by omega
      go_upto_region 23 with fail
      go_quiet (fail)
      clear w1 w2 w3 w4 w5 w6 w7 w8 W1 W2 W3 W4 W5 W6 W7 W8 g1 g2 g3 g4 g5 c0 cn HA2 HA3 HM2 HM3
      have e3 := cell_later Z6.out E3.out
      obtain ⟨at', hat⟩ : ∃ a, n3 % (n : Int) = a := ⟨_, rfl⟩
      have HM4 : Hid (∀ W, Calls Try.prog 13 #[.int .i64 n3, .int .i64 (n : Int)] W fun e w' => e = .returned (.int .i64 at') ∧ W = w') := Lib.hid (mod_is hat BN3.out.1 BN3.out.2 g7 (by omega))
      have HPT : Hid (∀ W, Below X.heap.size X W → Calls Try.prog 54 #[.slice (some ⟨bp, op, none⟩) n k4, .int .i64 at'] W (RetP2 (partA ps at') (partB ps at') (partE ps at') W)) := Lib.hid (fun W hB => by have := Part_any ps at' (some ⟨bp, op, none⟩) k4 (by rw [HN.out]; exact hk4) hkm4 W ((HRP.out.keep hB (Nat.le_refl _)).more hB.size); rwa [HN.out] at this)
      clear hat E3
      go_wp2_with (go_at_call 13; (with_reducible refine (HM4.out _).mono ?_); rintro e w' ⟨rfl, rfl⟩)
      refine (HPT.out _ (below_drewN Z6.out _)).mono ?_
      rintro e Y7 ⟨v1, v2, rfl, o1, o2, hb⟩
      have Z7 := Lib.hid (below_step hb (below_drewN Z6.out _) Z6.out.size)
      have H1 := Lib.hid o1
      have H2 := Lib.hid o2
      clear hb o1 o2 Z6 e3 HPT HM4
      rcases partE_cases HP.out at' with he | he
      case inr =>
        rw [he]
        go_wp2_with (go_at_call 16; (with_reducible refine (sane_any _).mono ?_); rintro e w8 ⟨rfl, hb8⟩)
        go_ret
        exact ⟨rfl, below_step (below_step hb8 Z7.out Z7.out.size) LX.out LX.out.size⟩
      case inl =>
        rw [he]
        obtain ⟨k, rfl, hk1, hk2, hag, ea, eb⟩ := partE_zero he
        have o1 := H1.out
        have o2 := H2.out
        rw [ea] at o1
        rw [eb] at o2
        have hn := HN.out
        have hP := HP.out
        rw [hn] at hk2
        have t1 : (ps.take (k + 1)).length = k + 1 := by rw [List.length_take]; omega
        have t2 : (ps.drop k).length = n - k := by rw [List.length_drop, hn]
        have t3 : (al.take (k + 1)).length = k + 1 := by rw [List.length_take, HLA.out]; omega
        have t4 : (al.drop k).length = n - k := by rw [List.length_drop, HLA.out]
        have hP1 := ok_take hP hk1 (by omega)
        have hP2 := ok_drop hP (n := k) (by omega)
        have x1 := area_parts (a := al) (by omega) hag
        have x2 := mom_parts (a := al) (ab := ab) (by omega) hag
        rw [hn, HXV.out] at x1
        rw [hn, HRV.out] at x2
        have ba1 : ∀ j, -1000 ≤ ix (al.take (k + 1)) j ∧ ix (al.take (k + 1)) j ≤ 1000 := fun j => by
          by_cases hj : j < k + 1
          · rw [ix_take hj]; exact HBA.out j
          · rw [ix_out (by omega)]; omega
        have ba2 : ∀ j, -1000 ≤ ix (al.drop k) j ∧ ix (al.drop k) j ≤ 1000 := fun j => by rw [ix_drop]; exact HBA.out _
        have v1 := areaV (ys := al.take (k + 1)) hP1 (t3.trans t1.symm) (fun j => by have := ba1 j; omega)
        have v2 := areaV (ys := al.drop k) hP2 (t4.trans t2.symm) (fun j => by have := ba2 j; omega)
        have v3 := momV (ys := al.take (k + 1)) (ab := ab) hP1 (t3.trans t1.symm) (fun j => by have := ba1 j; omega) r2 r21
        have v4 := momV (ys := al.drop k) (ab := ab) hP2 (t4.trans t2.symm) (fun j => by have := ba2 j; omega) r2 r21
        have s1 := area_small hP1 rfl ba1
        have s2 := area_small hP2 rfl ba2
        have s3 := mom_small hP1 rfl ba1 r2 r21
        have s4 := mom_small hP2 rfl ba2 r2 r21
        obtain ⟨j1, hj1⟩ : ∃ x, sm (weightsZ (ps.take (k + 1))) (fun j => ix (al.take (k + 1)) j) (ps.take (k + 1)).length = x := ⟨_, rfl⟩
        obtain ⟨j2, hj2⟩ : ∃ x, sm (weightsZ (ps.drop k)) (fun j => ix (al.drop k) j) (ps.drop k).length = x := ⟨_, rfl⟩
        obtain ⟨j3, hj3⟩ : ∃ x, sm (weightsZ (ps.take (k + 1))) (fun j => ix (al.take (k + 1)) j * (ix (ps.take (k + 1)) j - ab)) (ps.take (k + 1)).length = x := ⟨_, rfl⟩
        obtain ⟨j4, hj4⟩ : ∃ x, sm (weightsZ (ps.drop k)) (fun j => ix (al.drop k) j * (ix (ps.drop k) j - ab)) (ps.drop k).length = x := ⟨_, rfl⟩
        rw [hj1] at x1 v1 s1
        rw [hj2] at x1 v2 s2
        rw [hj3] at x2 v3 s3
        rw [hj4] at x2 v4 s4
        obtain ⟨A8, k8, rfl, hk8, hkm8, rd8⟩ := o1.formN t1
        obtain ⟨A9, k9, rfl, hk9, hkm9, rd9⟩ := o2.formN t2
        obtain ⟨b5, q5, rfl, hb5, hc5⟩ := HRA.out.ints (by have := HLA.out; omega)
        have r1 : RD X X.heap.size (some ⟨b5, q5, none⟩) (ints (al.take (k + 1))) := by unfold ints; rw [List.map_take]; exact HRA.out.take _
        have r3 : RD X X.heap.size (some ⟨b5, q5 + k, none⟩) (ints (al.drop k)) := by unfold ints; rw [List.map_drop]; exact HRA.out.drop _
        have HB7 := Z7.out
        have G1 : Hid (∀ W, Below Y7.heap.size Y7 W → Calls Try.prog 20 #[.slice A8 (k + 1) k8, .slice (some ⟨b5, q5, none⟩) (k + 1) (k + 1)] W fun e w' => e = .returned (.tuple #[.int .i64 j1, .int .i64 0]) ∧ Below W.heap.size W w') := Lib.hid (fun W hB => AreaS v1 t1 t3 A8 k8 _ (k + 1) hk8 hkm8 (Nat.le_refl _) (by omega) W hB.size (rd8.keep hB (Nat.le_refl _)) (((r1.keep HB7 (Nat.le_refl _)).more HB7.size).keep hB (Nat.le_refl _)))
        have G2 : Hid (∀ W, Below Y7.heap.size Y7 W → Calls Try.prog 20 #[.slice A9 (n - k) k9, .slice (some ⟨b5, q5 + k, none⟩) (n - k) (k5 - k)] W fun e w' => e = .returned (.tuple #[.int .i64 j2, .int .i64 0]) ∧ Below W.heap.size W w') := Lib.hid (fun W hB => AreaS v2 t2 t4 A9 k9 _ (k5 - k) hk9 hkm9 (by omega) (by omega) W hB.size (rd9.keep hB (Nat.le_refl _)) (((r3.keep HB7 (Nat.le_refl _)).more HB7.size).keep hB (Nat.le_refl _)))
        have G3 : Hid (∀ W, Below Y7.heap.size Y7 W → Calls Try.prog 24 #[.slice A8 (k + 1) k8, .slice (some ⟨b5, q5, none⟩) (k + 1) (k + 1), .int .i64 ab] W fun e w' => e = .returned (.tuple #[.int .i64 j3, .int .i64 0]) ∧ Below W.heap.size W w') := Lib.hid (fun W hB => MomentS v3 t1 t3 A8 k8 _ (k + 1) hk8 hkm8 (Nat.le_refl _) (by omega) W hB.size (rd8.keep hB (Nat.le_refl _)) (((r1.keep HB7 (Nat.le_refl _)).more HB7.size).keep hB (Nat.le_refl _)))
        have G4 : Hid (∀ W, Below Y7.heap.size Y7 W → Calls Try.prog 24 #[.slice A9 (n - k) k9, .slice (some ⟨b5, q5 + k, none⟩) (n - k) (k5 - k), .int .i64 ab] W fun e w' => e = .returned (.tuple #[.int .i64 j4, .int .i64 0]) ∧ Below W.heap.size W w') := Lib.hid (fun W hB => MomentS v4 t2 t4 A9 k9 _ (k5 - k) hk9 hkm9 (by omega) (by omega) W hB.size (rd9.keep hB (Nat.le_refl _)) (((r3.keep HB7 (Nat.le_refl _)).more HB7.size).keep hB (Nat.le_refl _)))
        obtain ⟨je, jv⟩ := join_parts hP hk1 (by omega) hag
        have G5 : Hid (∀ W, Below Y7.heap.size Y7 W → Calls Try.prog 56 #[.slice A8 (k + 1) k8, .slice A9 (n - k) k9] W (RetP1 ps 0 W)) := Lib.hid (fun W hB => by have := Join_any t1 t2 A8 k8 A9 k9 hk8 hkm8 hk9 hkm9 W ((rd8.keep hB (Nat.le_refl _)).more hB.size) ((rd9.keep hB (Nat.le_refl _)).more hB.size); rwa [je, jv] at this)
        have w1 : IntKind.i64.wrap (j1 + j2) = xv := by rw [IntWalk.i64_in _ ⟨by omega, by omega⟩]; exact x1.symm
        have w2 : IntKind.i64.wrap (j3 + j4) = rv := by rw [IntWalk.i64_in _ ⟨by omega, by omega⟩]; exact x2.symm
        have w3 : IntKind.i64.wrap ((k : Int) + 1) = (k : Int) + 1 := IntWalk.i64_in _ ⟨by omega, by omega⟩
        have w4 : ((k : Int) + 1).toNat = k + 1 := by omega
        have w5 : (0 : Int) ≤ (k : Int) + 1 := by omega
        have w6 : (k : Int) + 1 ≤ (k5 : Int) := by omega
        have w7 : (k : Int) ≤ (n : Int) := by omega
        have w8 : k ≤ n := by omega
        have w9 : k + 1 ≤ k5 := by omega
        have f4 : ¬ k5 = k := by omega
        have f5 : ¬ k = k5 := by omega
        have f6 : ¬ k5 - k = 0 := by omega
        have f7 : k < k5 := by omega
        have f8 : k ≤ k5 := by omega
        have Z8 : Hid (Below Y7.heap.size Y7 Y7) := Lib.hid (Below.refl _ _)
        have W1 := Lib.hid w1
        have W2 := Lib.hid w2
        have Z7' := Lib.hid (below_step HB7 LX.out LX.out.size)
        have HRP7 := Lib.hid (HRP.out.keep HB7 (Nat.le_refl _))
        have HB7size := HB7.size
        clear o1 o2 H1 H2 ea eb he hag hP1 hP2 x1 x2 ba1 ba2 v1 v2 v3 v4 s1 s2 s3 s4 hj1 hj2 hj3 hj4 rd8 rd9 hb5 hc5 r1 r3 HB7 je jv hn hP t1 t2 t3 t4 w1 w2
        go_wp2_with fail
        refine (G1.out _ Z8.out).mono ?_
        rintro e Y8 ⟨rfl, hb⟩
        have Z9 := Lib.hid (below_step hb Z8.out Z8.out.size)
        clear hb Z8
        go_wp2_with fail
        refine (G2.out _ Z9.out).mono ?_
        rintro e Y9 ⟨rfl, hb⟩
        have Z10 := Lib.hid (below_step hb Z9.out Z9.out.size)
        clear hb Z9
        go_wp2_with fail
        refine (G3.out _ Z10.out).mono ?_
        rintro e Y10 ⟨rfl, hb⟩
        have Z11 := Lib.hid (below_step hb Z10.out Z10.out.size)
        clear hb Z10
        go_wp2_with fail
        refine (G4.out _ Z11.out).mono ?_
        rintro e Y11 ⟨rfl, hb⟩
        have Z12 := Lib.hid (below_step hb Z11.out Z11.out.size)
        clear hb Z11
        go_wp2_with fail
        refine (G5.out _ Z12.out).mono ?_
        rintro e Y12 ⟨v3, rfl, o3, hb⟩
        obtain ⟨A10, k10, rfl, hk10, hkm10, rd10⟩ := o3.formN HN.out
        have Z13 := Lib.hid (below_step hb Z12.out Z12.out.size)
        have R10 := Lib.hid rd10
        have SI : Hid (Calls Try.prog 15 #[.slice A10 n k10, .slice (some ⟨bp, op, none⟩) n k4] Y12 fun e w' => e = .returned (.bool true) ∧ ∃ k, w' = Y12.drewN k) := Lib.hid (SameInts_n (decide_eq_true rfl) HN.out HN.out A10 k10 _ k4 hk10 hkm10 hk4 hkm4 Y12 R10.out (HRP7.out.keep Z13.out HB7size))
        have w1 := W1.out
        have w2 := W2.out
        clear hb o3 rd10 Z12
        go_wp2_with (first | (go_at_call 15; (with_reducible refine SI.out.mono ?_); rintro e w' ⟨rfl, q9, rfl⟩) | (go_at_call 16; (with_reducible refine (sane_any _).mono ?_); rintro e w8 ⟨rfl, hb8⟩))
        go_ret
        exact ⟨rfl, below_step hb8 (below_drewN (below_step Z13.out Z7'.out Z7'.out.size) _) (below_step Z13.out Z7'.out Z7'.out.size).size⟩

end Go.Proofs.Ytdlmdaononclgaa
