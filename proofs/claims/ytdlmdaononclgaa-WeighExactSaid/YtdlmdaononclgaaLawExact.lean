import Derived.Test.YtdlmdaononclgaaAppN
import Derived.Outline
/- WeighExact: the walk. -/
namespace Go.Proofs.Ytdlmdaononclgaa
open Go.RowKit
set_option linter.unusedVariables false
set_option linter.unusedSimpArgs false

set_option maxHeartbeats 8000000 in
set_option maxRecDepth 100000 in
theorem weighExact_walk (xs : List Int) (A : Option Addr) (c : Nat) (hc : xs.length ≤ c) (hm : c ≤ 17592186043904) (y0 y1 y2 : Int) (b0 : -9223372036854775808 ≤ y0 ∧ y0 ≤ 9223372036854775807) (b1 : -9223372036854775808 ≤ y1 ∧ y1 ≤ 9223372036854775807) (b2 : -9223372036854775808 ≤ y2 ∧ y2 ≤ 9223372036854775807)
    (w : World) (h : RD w w.heap.size A (ints xs)) (bd : ∀ j, -9223372036854775808 ≤ ix xs j ∧ ix xs j ≤ 9223372036854775807) :
    Calls Try.prog 7 #[.slice A xs.length c, .agg #[.int .i64 y0, .int .i64 y1, .int .i64 y2]] w fun e w' => e = .returned (.bool true) ∧ Below w.heap.size w w' := by
  obtain ⟨m0, hm0⟩ : ∃ m, y0 % 19 = m := ⟨_, rfl⟩
  obtain ⟨m1, hm1⟩ : ∃ m, y1 % 19 = m := ⟨_, rfl⟩
  obtain ⟨m2, hm2⟩ : ∃ m, y2 % 19 = m := ⟨_, rfl⟩
  have M0 : Hid (∀ W, Calls Try.prog 13 #[.int .i64 y0, .int .i64 19] W fun e w' => e = .returned (.int .i64 m0) ∧ W = w') := Lib.hid (mod_is hm0 b0.1 b0.2 (by omega) (by omega))
  have M1 : Hid (∀ W, Calls Try.prog 13 #[.int .i64 y1, .int .i64 19] W fun e w' => e = .returned (.int .i64 m1) ∧ W = w') := Lib.hid (mod_is hm1 b1.1 b1.2 (by omega) (by omega))
  have M2 : Hid (∀ W, Calls Try.prog 13 #[.int .i64 y2, .int .i64 19] W fun e w' => e = .returned (.int .i64 m2) ∧ W = w') := Lib.hid (mod_is hm2 b2.1 b2.2 (by omega) (by omega))
  have r0 : 0 ≤ m0 ∧ m0 ≤ 18 := by omega
  have r1 : 0 ≤ m1 ∧ m1 ≤ 18 := by omega
  have r2 : 0 ≤ m2 ∧ m2 ≤ 18 := by omega
  have HPL : Hid (∀ W, Below w.heap.size w W → Calls Try.prog 12 #[.slice A xs.length c, .int .i64 9, .int .i64 3000] W (RetPl 9 3000 W)) := Lib.hid (fun W hb => Places_any xs A c 9 3000 (by omega) (by omega) (by omega) (by omega) hc hm W ((h.keep hb (Nat.le_refl _)).more hb.size) bd)
  clear hm0 hm1 hm2 b0 b1 b2 bd h
  go_enter Try.func7, Try.ntmps7
  go_wp2_with fail
  refine (HPL.out _ (Below.alloc (Below.refl _ _) (Nat.le_refl _) _)).mono ?_
  rintro e V0 ⟨ps, v, rfl, hown, hpl, hl2, hbl⟩
  obtain ⟨A1, k1, rfl, hk1, hkm1, _⟩ := hown.formN rfl
  have S0 : Hid (XS w (.slice A1 ps.length k1) ps [y0, y1, y2] V0) := Lib.hid ⟨by
    rw [hbl.block w.heap.size (by simp)]; exact heap_alloc_new w _, by simpa using hown, below_step hbl (Below.alloc (Below.refl _ _) (Nat.le_refl _) _) (by simp)⟩
  have hP : OkP 9 100000 ps := hpl.okP hl2 (by omega) (by omega)
  have HP := Lib.hid hP
  have h9 := hP.many
  have z0 := S0.out.lt
  clear hown hpl hbl hP HPL
  go_wp2
  refine wp_loop_rounds 4 ?_
  rw [rounds_succ]
  have lc : V0.cell? ⟨w.heap.size, 0, none⟩ = some (.int .i64 y0) := S0.out.cell 0 (by simp)
  have lf := S0.out.free 0
  go_wp2_with (go_at_call 13; (with_reducible refine (M0.out _).mono ?_); rintro e w' ⟨rfl, rfl⟩)
  generalize hV : V0.setCell ⟨w.heap.size, 0, none⟩ (.int .i64 (m0 - 9)) = V1
  have S1 : Hid (XS w (.slice A1 ps.length k1) ps [m0 - 9, y1, y2] V1) := Lib.hid (by rw [← hV]; exact S0.out.set 0 (m0 - 9))
  have z1 := S1.out.lt
  clear hV lc lf S0 z0 M0
  rw [rounds_succ]
  have lc : V1.cell? ⟨w.heap.size, 1, none⟩ = some (.int .i64 y1) := S1.out.cell 1 (by simp)
  have lf := S1.out.free 1
  go_wp2_with (go_at_call 13; (with_reducible refine (M1.out _).mono ?_); rintro e w' ⟨rfl, rfl⟩)
  generalize hV : V1.setCell ⟨w.heap.size, 1, none⟩ (.int .i64 (m1 - 9)) = V2
  have S2 : Hid (XS w (.slice A1 ps.length k1) ps [m0 - 9, m1 - 9, y2] V2) := Lib.hid (by rw [← hV]; exact S1.out.set 1 (m1 - 9))
  have z2 := S2.out.lt
  clear hV lc lf S1 z1 M1
  rw [rounds_succ]
  have lc : V2.cell? ⟨w.heap.size, 2, none⟩ = some (.int .i64 y2) := S2.out.cell 2 (by simp)
  have lf := S2.out.free 2
  go_wp2_with (go_at_call 13; (with_reducible refine (M2.out _).mono ?_); rintro e w' ⟨rfl, rfl⟩)
  generalize hV : V2.setCell ⟨w.heap.size, 2, none⟩ (.int .i64 (m2 - 9)) = V3
  have S3 : Hid (XS w (.slice A1 ps.length k1) ps [m0 - 9, m1 - 9, m2 - 9] V3) := Lib.hid (by rw [← hV]; exact S2.out.set 2 (m2 - 9))
  have z3 := S3.out.lt
  clear hV lc lf S2 z2 M2
  rw [rounds_succ]
  have lc0 : V3.cell? ⟨w.heap.size, 0, none⟩ = some (.int .i64 (m0 - 9)) := S3.out.cell 0 (by simp)
  have lc1 : V3.cell? ⟨w.heap.size, 1, none⟩ = some (.int .i64 (m1 - 9)) := S3.out.cell 1 (by simp)
  have lc2 : V3.cell? ⟨w.heap.size, 2, none⟩ = some (.int .i64 (m2 - 9)) := S3.out.cell 2 (by simp)
  have hwl : (weightsZ ps).length = ps.length := wtAcc_length ps _
  have HWL := Lib.hid hwl
  obtain ⟨n, hn⟩ : ∃ n, (groupsZ ps).length = n := ⟨_, rfl⟩
  have HN := Lib.hid hn
  obtain ⟨a0, ha0⟩ : ∃ a, m0 - 9 = a := ⟨_, rfl⟩
  obtain ⟨a1, ha1⟩ : ∃ a, m1 - 9 = a := ⟨_, rfl⟩
  obtain ⟨a2, ha2⟩ : ∃ a, m2 - 9 = a := ⟨_, rfl⟩
  rw [ha0] at lc0
  rw [ha1] at lc1
  rw [ha2] at lc2
  have q0 : -9 ≤ a0 ∧ a0 ≤ 9 := by omega
  have q1 : -9 ≤ a1 ∧ a1 ≤ 9 := by omega
  have q2 : -9 ≤ a2 ∧ a2 ≤ 9 := by omega
  have Q0 := Lib.hid q0
  have Q1 := Lib.hid q1
  have Q2 := Lib.hid q2
  clear hwl hn r0 r1 r2 ha0 ha1 ha2 q0 q1 q2
  go_wp2_with fail
  refine (Weights_is (okP_mk HP.out) rfl rfl HWL.out A1 k1 hk1 hkm1 V3 S3.out.own.rd).mono ?_
  rintro e V4 ⟨g, rfl, hg, harr, hb4⟩
  have S4 := Lib.hid (S3.out.keep hb4)
  have HAR := Lib.hid harr
  replace lc0 := cell_later hb4 lc0
  replace lc1 := cell_later hb4 lc1
  replace lc2 := cell_later hb4 lc2
  have z4 := S4.out.lt
  have zg := harr.lt
  clear harr hb4 S3 z3
  go_wp2_with fail
  refine (Groups_yes (okP_mk HP.out) A1 k1 hk1 hkm1 V4 S4.out.own.rd).mono ?_
  rintro e V5 ⟨v1, rfl, ho1, hb5⟩
  obtain ⟨A2, k2, rfl, hk2, hkm2, hgd⟩ := ho1.formN HN.out
  have S5 := Lib.hid (S4.out.keep hb5)
  have HG := Lib.hid hgd
  have HA := Lib.hid (HAR.out.of_block (hb5.block _ zg))
  replace lc0 := cell_later hb5 lc0
  replace lc1 := cell_later hb5 lc1
  replace lc2 := cell_later hb5 lc2
  have z5 := S5.out.lt
  have zg5 := HA.out.lt
  clear hgd ho1 hb5 S4 z4 HAR zg
  go_upto_region 12 with fail
  generalize hW1 : V5.alloc (.cells #[.int .i64 a0, .int .i64 a1, .int .i64 0] 53) = W1
  obtain ⟨d0, d1, d2⟩ := cells_new3 V5 (.int .i64 a0) (.int .i64 a1) (.int .i64 0) 53
  rw [hW1] at d0 d1 d2
  have hbl : Below V5.heap.size V5 W1 := by rw [← hW1]; repeat' (first | (with_reducible exact Below.refl _ _) | (with_reducible assumption) | (refine below_step (by assumption) ?_ ?_) | (with_reducible refine below_drewN ?_ _) | (with_reducible refine Below.drew ?_) | (with_reducible refine Below.alloc ?_ ?_ _) | (with_reducible refine Below.setCell ?_ ?_ _) | go_size)
  have hsz : V5.heap.size < W1.heap.size := by rw [← hW1]; simp
  have z6 : w.heap.size < W1.heap.size := by omega
  replace lc0 := cell_later hbl lc0
  replace lc1 := cell_later hbl lc1
  replace lc2 := cell_later hbl lc2
  have hps : RD W1 W1.heap.size A1 (ints ps) := (S5.out.own.rd.keep hbl (Nat.le_refl _)).more hbl.size
  have hws : RD W1 W1.heap.size (some ⟨g, 0, none⟩) (ints (weightsZ ps)) := (HA.out.rd.keep hbl (by omega)).more (by omega)
  have hgs : GD W1 W1.heap.size A2 (groupsZ ps) := RD.more (RD.keep HG.out hbl (Nat.le_refl _)) hbl.size
  have BW := Lib.hid (below_step hbl S5.out.below S5.out.below.size)
  obtain ⟨b1, off1, rfl, hb1, hcell1⟩ := hps.ints (by omega)
  have HC := Lib.hid hcell1
  have HPS := Lib.hid hps
  have HWS := Lib.hid hws
  have HGS := Lib.hid hgs
  have f0 : W1.cell? ⟨b1, off1, none⟩ = some (.int .i64 (ix ps 0)) := hcell1 0 (by omega)
  have f1 : W1.cell? ⟨b1, off1 + (ps.length - 1), none⟩ = some (.int .i64 (ix ps (ps.length - 1))) := hcell1 _ (by omega)
  have hxb : ∀ j, 0 ≤ ix ps j ∧ ix ps j ≤ 100000 := fun j => by
    by_cases hj : j < ps.length
    · exact ⟨HP.out.lo j hj, HP.out.hi' j hj⟩
    · rw [ix_out (by omega)]; omega
  have hsA : sA (weightsZ ps) ps.length ≤ 5000000 := by
    have := sA_weights HP.out
    have := hxb 0
    have := hxb (ps.length - 1)
    omega
  obtain ⟨s1, hs1⟩ : ∃ s, sm (weightsZ ps) (fun i => poly a0 a1 0 (ix ps i)) ps.length = s := ⟨_, rfl⟩
  have e1 : integ a0 a1 0 (ix ps 0) (ix ps (ps.length - 1)) = s1 := by rw [integ_eq, ← exact1 HP.out, hs1]
  have AD : Hid (∀ W, Below W1.heap.size W1 W → Calls Try.prog 33 #[.slice (some ⟨g, 0, none⟩) ps.length ps.length, .slice (some ⟨b1, off1, none⟩) ps.length k1, .agg #[.int .i64 a0, .int .i64 a1, .int .i64 0]] W fun e w' => e = .returned (.int .i64 s1) ∧ Below W.heap.size W w') := Lib.hid (fun W hb => hs1 ▸ added_any (weightsZ ps) ps a0 a1 0 ps.length HWL.out rfl Q0.out Q1.out (by omega) hxb hsA _ _ _ _ (Nat.le_refl _) (by omega) hk1 hkm1 W ((hws.keep hb (Nat.le_refl _)).more hb.size) ((hps.keep hb (Nat.le_refl _)).more hb.size))
  have IG : Hid (∀ W, Calls Try.prog 34 #[.agg #[.int .i64 a0, .int .i64 a1, .int .i64 0], .int .i64 (ix ps 0), .int .i64 (ix ps (ps.length - 1))] W fun e w' => e = .returned (.int .i64 s1) ∧ Below W.heap.size W w') := Lib.hid (fun W => e1 ▸ integral_any a0 a1 0 _ _ Q0.out Q1.out (by omega) (hxb _) (hxb _) W)
  have HXB := Lib.hid hxb
  have HSA := Lib.hid hsA
  clear hW1 hbl hcell1 hps hws hgs hxb hsA hs1 e1 S5 HA HG z5 zg5 hg
  go_upto_region 14 with fail
  have K0 := Kd.cell d0
  have K1 := Kd.cell d1
  have K2 := Kd.cell d2
  clear d0 d1 d2
  refine region_kept (by kernel_rfl) (by kernel_rfl) ?_
  repeat (go_big_quiet_step ((first | (go_at_call 33; exact kept_call (AD.out _ (Kd.ok _))) | (go_at_call 34; exact kept_call (IG.out _)))))
  refine wpQuiet_nil ?_
  rintro W2 ⟨k, hk⟩
  have B2 : Below W1.heap.size W1 W2 := hk ▸ k.ok
  clear hk k
  have HB2 := Lib.hid B2
  clear K0 K1 K2 B2 AD IG
  go_wp2
--LOOP
  go_loopw [13, 14, 15] (fun al at' x wr => ∃ k : Nat, k ≤ n ∧ x = .int .i64 k ∧ at' = .int .i64 (posN ps k) ∧ al = .bool (allG (groupsZ ps) k) ∧ Below W1.heap.size W1 wr) (fun _ _ x _ => n - (intOf x).toNat)
  case atStart => exact ⟨0, by omega, rfl, by rw [posN_zero (by omega)], rfl, HB2.out⟩
  case round =>
    obtain ⟨k, hk, rfl, rfl, rfl, hB⟩ := hrel
    have HB := Lib.hid hB
    clear hB
    by_cases hk' : k < n
    · obtain ⟨b2, off2, rfl, hb2, hgc⟩ := HGS.out.at (by rw [HN.out]; omega)
      obtain ⟨gc0, gc1⟩ := hgc k (by rw [HN.out]; omega)
      have hpos := posN_at (xs := ps) (k := k) (by rw [HN.out]; omega)
      obtain ⟨j, hj, hh⟩ := group_at (gx_get (gs := groupsZ ps) (i := k) (by rw [HN.out]; omega))
      clear hgc
      rcases hh with ⟨e, _⟩ | ⟨e, _, hj2, hpair⟩
      all_goals rw [e] at gc0 gc1 hpos
      all_goals have ep : posN ps k = (j : Int) := hpos.symm
      all_goals rw [ep]
      all_goals have EM := Lib.hid (congrArg Prod.snd e)
      all_goals have cg0 := cell_later HB.out gc0
      all_goals have cg1 := cell_later HB.out gc1
      all_goals clear hpos
      all_goals have sb1 : b1 < wr.heap.size := by have := HB.out.size; omega
      all_goals have sb2 : b2 < wr.heap.size := by have := HB.out.size; omega
      case inl =>
        have e2 := partL_length (xs := ps) (a := j) (m := 1) (by omega)
        have hpo : OkP 9 100000 (partL ps j 1) := partL_ok HP.out (by omega) (by omega)
        have hwl3 : (weightsZ (partL ps j 1)).length = 2 := (wtAcc_length _ _).trans e2
        have hca : ∀ W, Below W1.heap.size W1 W → ∀ i, i < 2 → W.cell? ⟨b1, off1 + j + i, none⟩ = some (.int .i64 (ix (partL ps j 1) i)) := fun W hb i hi => by
          rw [partL_ix (by omega), Nat.add_assoc]; exact cell_later hb (HC.out (j + i) (by omega))
        have HPO := Lib.hid hpo
        have HWL3 := Lib.hid hwl3
        have HCA := Lib.hid hca
        have E2 := Lib.hid e2
        clear hpo hwl3 hca e e2
        go_wp2_with (at_builtin; refine wpList_appN rfl _ _ rfl wr.heap.size (.slice (some ⟨wr.heap.size, 0, none⟩) 0 0) [] rfl (ownI_nil0 wr _ (Nat.le_refl _)) b1 (off1 + j) _ _ (partL ps j 1) (by rw [E2.out]; omega) rfl (fun i hi => HCA.out _ (Below.alloc HB.out HB.out.size _) i (by omega)) (by simp only [List.length_nil]; omega) (by simp) ?_; intro v3 W3 ho3 hg3; obtain ⟨A3, c3, rfl, hc3, hm3, _⟩ := ho3.formN (n := 2) (by simp [E2.out]); have HB3 := Lib.hid (appN_below HB.out hg3); have HO3 := Lib.hid ho3; clear ho3 hg3)
        refine (Weights_is (okP_mk HPO.out) rfl E2.out HWL3.out A3 c3 hc3 hm3 W3 HO3.out.rd).mono ?_
        rintro e W4 ⟨g3, rfl, hg3, ha3, hb4⟩
        have HB4 := Lib.hid (below_step hb4 HB3.out HB3.out.size)
        have HO4 := Lib.hid (HO3.out.kept hb4 (Nat.le_refl _))
        have HA4 := Lib.hid ha3
        have kg0 := cell_later HB4.out gc0
        have kg1 := cell_later HB4.out gc1
        clear hb4 HO3 HB3 hg3 ha3
        go_upto_region 27 with fail
        go_quiet (fail)
        go_upto_region 29 with fail
        cases hal : allG (groupsZ ps) k <;>
          (go_wp2_with fail
           go_roundw
           case rel => exact ⟨k + 1, by omega, by go_num, by rw [posN_succ (by rw [HN.out]; exact hk'), ep, EM.out]; (try go_num), by rw [allG_succ (by rw [HN.out]; exact hk'), hal, EM.out]; rfl, below_drewN HB4.out _⟩
           case measure => simp [intOf]; omega)
      case inr =>
        have e2 := partL_length (xs := ps) (a := j) (m := 2) (by omega)
        have hpo : OkP 9 100000 (partL ps j 2) := partL_ok HP.out (by omega) (by omega)
        have hwl3 : (weightsZ (partL ps j 2)).length = 3 := (wtAcc_length _ _).trans e2
        have hca : ∀ W, Below W1.heap.size W1 W → ∀ i, i < 3 → W.cell? ⟨b1, off1 + j + i, none⟩ = some (.int .i64 (ix (partL ps j 2) i)) := fun W hb i hi => by
          rw [partL_ix (by omega), Nat.add_assoc]; exact cell_later hb (HC.out (j + i) (by omega))
        have HPO := Lib.hid hpo
        have HWL3 := Lib.hid hwl3
        have HCA := Lib.hid hca
        have E2 := Lib.hid e2
        clear hpo hwl3 hca e e2
        go_wp2_with (at_builtin; refine wpList_appN rfl _ _ rfl wr.heap.size (.slice (some ⟨wr.heap.size, 0, none⟩) 0 0) [] rfl (ownI_nil0 wr _ (Nat.le_refl _)) b1 (off1 + j) _ _ (partL ps j 2) (by rw [E2.out]; omega) rfl (fun i hi => HCA.out _ (Below.alloc HB.out HB.out.size _) i (by omega)) (by simp only [List.length_nil]; omega) (by simp) ?_; intro v3 W3 ho3 hg3; obtain ⟨A3, c3, rfl, hc3, hm3, _⟩ := ho3.formN (n := 3) (by simp [E2.out]); have HB3 := Lib.hid (appN_below HB.out hg3); have HO3 := Lib.hid ho3; clear ho3 hg3)
        refine (Weights_is (okP_mk HPO.out) rfl E2.out HWL3.out A3 c3 hc3 hm3 W3 HO3.out.rd).mono ?_
        rintro e W4 ⟨g3, rfl, hg3, ha3, hb4⟩
        have HB4 := Lib.hid (below_step hb4 HB3.out HB3.out.size)
        have HO4 := Lib.hid (HO3.out.kept hb4 (Nat.le_refl _))
        have HA4 := Lib.hid ha3
        have kg0 := cell_later HB4.out gc0
        have kg1 := cell_later HB4.out gc1
        clear hb4 HO3 HB3 hg3 ha3
        have hp3 : RD W4 W4.heap.size A3 (ints (partL ps j 2)) := HO4.out.rd
        obtain ⟨b3, off3, rfl, hb3, hcell3⟩ := hp3.ints (by rw [E2.out]; omega)
        rw [E2.out] at hcell3
        have p0 : W4.cell? ⟨b3, off3, none⟩ = some (.int .i64 (ix (partL ps j 2) 0)) := hcell3 0 (by omega)
        have p2 : W4.cell? ⟨b3, off3 + 2, none⟩ = some (.int .i64 (ix (partL ps j 2) 2)) := hcell3 2 (by omega)
        have hxb : ∀ i, 0 ≤ ix (partL ps j 2) i ∧ ix (partL ps j 2) i ≤ 100000 := fun i => by
          by_cases hi : i < 3
          · rw [partL_ix (by omega)]; exact HXB.out _
          · rw [ix_out (by rw [E2.out]; omega)]; omega
        have hsA : sA (weightsZ (partL ps j 2)) 3 ≤ 5000000 := by
          have h0 : sA (weightsZ (partL ps j 2)) 3 ≤ 48 * (ix (partL ps j 2) 2 - ix (partL ps j 2) 0) := by have h := sA_weights HPO.out; rw [E2.out] at h; exact h
          have h1 := hxb 0
          have h2 := hxb 2
          omega
        obtain ⟨s3, hs3⟩ : ∃ s, sm (weightsZ (partL ps j 2)) (fun i => poly a0 a1 a2 (ix (partL ps j 2) i)) 3 = s := ⟨_, rfl⟩
        have e3 : integ a0 a1 a2 (ix (partL ps j 2) 0) (ix (partL ps j 2) 2) = s3 := by rw [← part_exact HP.out hj2 hpair, hs3]
        have AD3 : Hid (∀ W, Below W4.heap.size W4 W → Calls Try.prog 33 #[.slice (some ⟨g3, 0, none⟩) 3 3, .slice (some ⟨b3, off3, none⟩) 3 c3, .agg #[.int .i64 a0, .int .i64 a1, .int .i64 a2]] W fun e w' => e = .returned (.int .i64 s3) ∧ Below W.heap.size W w') := Lib.hid (fun W hb => hs3 ▸ added_any (weightsZ (partL ps j 2)) (partL ps j 2) a0 a1 a2 3 HWL3.out E2.out Q0.out Q1.out Q2.out hxb hsA _ _ _ _ (Nat.le_refl _) (by omega) hc3 hm3 W ((HA4.out.rd.keep hb HA4.out.lt).more (by have := HA4.out.lt; have := hb.size; omega)) ((hp3.keep hb (Nat.le_refl _)).more hb.size))
        have IG3 : Hid (∀ W, Calls Try.prog 34 #[.agg #[.int .i64 a0, .int .i64 a1, .int .i64 a2], .int .i64 (ix (partL ps j 2) 0), .int .i64 (ix (partL ps j 2) 2)] W fun e w' => e = .returned (.int .i64 s3) ∧ Below W.heap.size W w') := Lib.hid (fun W => e3 ▸ integral_any a0 a1 a2 _ _ Q0.out Q1.out Q2.out (hxb _) (hxb _) W)
        clear hcell3 hxb hsA hs3 e3 hp3
        have kc0 := cell_later HB4.out lc0
        have kc1 := cell_later HB4.out lc1
        have kc2 := cell_later HB4.out lc2
        go_upto_region 27 with fail
        have K0 := Kd.cell kc0
        have K1 := Kd.cell kc1
        have K2 := Kd.cell kc2
        have K3 := Kd.cell p0
        have K4 := Kd.cell p2
        have K5 := Kd.cell kg1
        have K6 := Kd.cell kg0
        clear kc0 kc1 kc2 p0 p2
        refine region_kept (by kernel_rfl) (by kernel_rfl) ?_
        repeat (go_big_quiet_step ((first | (go_at_call 33; exact kept_call (AD3.out _ (Kd.ok _))) | (go_at_call 34; exact kept_call (IG3.out _)))))
        refine wpQuiet_nil ?_
        rintro W5 ⟨kk, hkk⟩
        have B5 : Below W4.heap.size W4 W5 := hkk ▸ kk.ok
        have lg0 := cell_later B5 kg0
        have lg1 := cell_later B5 kg1
        have HB5 := Lib.hid (below_step B5 HB4.out HB4.out.size)
        clear hkk kk K0 K1 K2 K3 K4 K5 K6 AD3 IG3 B5 kg0 kg1
        go_upto_region 29 with fail
        cases hal : allG (groupsZ ps) k <;>
          (go_wp2_with fail
           go_roundw
           case rel => exact ⟨k + 1, by omega, by go_num, by rw [posN_succ (by rw [HN.out]; exact hk'), ep, EM.out]; (try go_num), by rw [allG_succ (by rw [HN.out]; exact hk'), hal, EM.out]; rfl, HB5.out⟩
           case measure => simp [intOf]; omega)
    · obtain rfl : k = n := by omega
      have ep : posN ps k = (ps.length : Int) - 1 := by rw [← HN.out]; exact posN_last
      rw [ep]
      have kc0 := cell_later HB.out lc0
      have kc1 := cell_later HB.out lc1
      have kc2 := cell_later HB.out lc2
      clear ep
      cases hal : allG (groupsZ ps) k
      · clear lc0 lc1 lc2 kc0 kc1 kc2 f0 f1 hal
        go_upto_region 31 with fail
        refine region_kept (by kernel_rfl) (by kernel_rfl) ?_
        repeat (go_big_quiet_step ((go_at_call 16; exact kept_call (sane_any _))))
        refine wpQuiet_nil ?_
        rintro W5 ⟨kk, hkk⟩
        have B5 : Below wr.heap.size wr W5 := hkk ▸ kk.ok
        clear hkk kk
        go_wp2
        go_ret
        exact ⟨rfl, below_step (below_step B5 HB.out HB.out.size) BW.out BW.out.size⟩
      · have hall := allG_all (gs := groupsZ ps) (by rw [HN.out]; exact hal)
        obtain ⟨s2, hs2⟩ : ∃ s, sm (weightsZ ps) (fun i => poly a0 a1 a2 (ix ps i)) ps.length = s := ⟨_, rfl⟩
        have e2 : integ a0 a1 a2 (ix ps 0) (ix ps (ps.length - 1)) = s2 := by rw [integ_eq, ← exact2 HP.out hall, hs2]
        have AD2 : Hid (∀ W, Below W1.heap.size W1 W → Calls Try.prog 33 #[.slice (some ⟨g, 0, none⟩) ps.length ps.length, .slice (some ⟨b1, off1, none⟩) ps.length k1, .agg #[.int .i64 a0, .int .i64 a1, .int .i64 a2]] W fun e w' => e = .returned (.int .i64 s2) ∧ Below W.heap.size W w') := Lib.hid (fun W hb => hs2 ▸ added_any (weightsZ ps) ps a0 a1 a2 ps.length HWL.out rfl Q0.out Q1.out Q2.out HXB.out HSA.out _ _ _ _ (Nat.le_refl _) (by omega) hk1 hkm1 W ((HWS.out.keep hb (Nat.le_refl _)).more hb.size) ((HPS.out.keep hb (Nat.le_refl _)).more hb.size))
        have IG2 : Hid (∀ W, Calls Try.prog 34 #[.agg #[.int .i64 a0, .int .i64 a1, .int .i64 a2], .int .i64 (ix ps 0), .int .i64 (ix ps (ps.length - 1))] W fun e w' => e = .returned (.int .i64 s2) ∧ Below W.heap.size W w') := Lib.hid (fun W => e2 ▸ integral_any a0 a1 a2 _ _ Q0.out Q1.out Q2.out (HXB.out _) (HXB.out _) W)
        clear lc0 lc1 lc2 f0 f1 hal hall hs2 e2
        go_upto_region 31 with fail
        have K0 := Kd.cell kc0
        have K1 := Kd.cell kc1
        have K2 := Kd.cell kc2
        clear kc0 kc1 kc2
        refine region_kept (by kernel_rfl) (by kernel_rfl) ?_
        repeat (go_big_quiet_step ((first | (go_at_call 33; exact kept_call (AD2.out _ (below_step (Kd.ok _) HB.out HB.out.size))) | (go_at_call 34; exact kept_call (IG2.out _)) | (go_at_call 16; exact kept_call (sane_any _)))))
        refine wpQuiet_nil ?_
        rintro W5 ⟨kk, hkk⟩
        have B5 : Below wr.heap.size wr W5 := hkk ▸ kk.ok
        clear hkk kk K0 K1 K2 AD2 IG2
        go_wp2
        go_ret
        exact ⟨rfl, below_step (below_step B5 HB.out HB.out.size) BW.out BW.out.size⟩

end Go.Proofs.Ytdlmdaononclgaa
