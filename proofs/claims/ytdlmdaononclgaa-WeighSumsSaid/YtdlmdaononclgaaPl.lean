import Derived.Test.YtdlmdaononclgaaMC
/- The reference's makers of positions: At, Places. -/
namespace Go.Proofs.Ytdlmdaononclgaa
open Go.RowKit
set_option linter.unusedVariables false
set_option linter.unusedSimpArgs false

theorem mod_is {n m r : Int} (h : n % m = r) (h0 : -9223372036854775808 ≤ n) (h1 : n ≤ 9223372036854775807) (m0 : 0 < m) (m1 : m ≤ 4611686018427387904) (w : World) :
    Calls Try.prog 13 #[.int .i64 n, .int .i64 m] w fun e w' => e = .returned (.int .i64 r) ∧ w = w' := by
  subst h; exact mod_any n m h0 h1 m0 m1 w

/-- the number at an index modulo the length. -/
def atZ (xs : List Int) (i : Int) : Int := if xs.length = 0 then 0 else ix xs (i % (xs.length : Int)).toNat
theorem atZ_bd {xs : List Int} {i : Int} (bd : ∀ j, -9223372036854775808 ≤ ix xs j ∧ ix xs j ≤ 9223372036854775807) : -9223372036854775808 ≤ atZ xs i ∧ atZ xs i ≤ 9223372036854775807 := by
  unfold atZ; split
  · omega
  · exact bd _

set_option maxHeartbeats 1000000 in
theorem At_any (xs : List Int) (A : Option Addr) (c : Nat) (i : Int) (i0 : -9223372036854775808 ≤ i) (i1 : i ≤ 9223372036854775807) (hc : xs.length ≤ c) (hm : c ≤ 17592186043904) (w : World) {B : Nat} (h : RD w B A (ints xs)) :
    Calls Try.prog 58 #[.slice A xs.length c, .int .i64 i] w fun e w' => e = .returned (.int .i64 (atZ xs i)) ∧ w = w' := by
  by_cases h0 : xs.length = 0
  · have hr : atZ xs i = 0 := if_pos h0
    rw [hr]
    have e1 : ((xs.length : Int) == 0) = true := by simp [h0]
    have e2 : (xs.length == 0) = true := by simp [h0]
    have H0 := Lib.hid h0
    clear h0 hr h
    go_enter Try.func58, Try.ntmps58
    go_wp2
    go_ret
    exact ⟨rfl, rfl⟩
  · obtain ⟨k, hk⟩ := Int.eq_ofNat_of_zero_le (Int.emod_nonneg i (show ((xs.length : Nat) : Int) ≠ 0 by omega))
    have hlt := Int.emod_lt_of_pos i (show (0 : Int) < (xs.length : Nat) by omega)
    rw [hk] at hlt
    have hkl : k < xs.length := by omega
    have hr : atZ xs i = ix xs k := by rw [atZ, if_neg h0, hk]; rfl
    rw [hr]
    obtain ⟨b, off, rfl, hb, hcell⟩ := h.ints (by omega)
    have y0 := hcell k hkl
    have e1 : ((xs.length : Int) == 0) = false := beq_eq_false_iff_ne.2 (by omega)
    have e2 : (xs.length == 0) = false := beq_eq_false_iff_ne.2 (by omega)
    have hpos : (0 : Int) < (xs.length : Nat) := by omega
    have HK := Lib.hid hk
    clear hk hr h0 h hcell
    go_enter Try.func58, Try.ntmps58
    go_wp2_with (go_at_call 13; (with_reducible refine (mod_is HK.out i0 i1 hpos (by omega) _).mono ?_); rintro e w' ⟨rfl, rfl⟩)
    go_ret
    exact ⟨rfl, rfl⟩
theorem At_is {xs : List Int} {i r : Int} (hr : atZ xs i = r) (A : Option Addr) (c : Nat) (i0 : -9223372036854775808 ≤ i) (i1 : i ≤ 9223372036854775807) (hc : xs.length ≤ c) (hm : c ≤ 17592186043904) (w : World) {B : Nat} (h : RD w B A (ints xs)) :
    Calls Try.prog 58 #[.slice A xs.length c, .int .i64 i] w fun e w' => e = .returned (.int .i64 r) ∧ w = w' := by
  subst hr; exact At_any xs A c i i0 i1 hc hm w h

/-- positions as Places makes them. -/
structure PlP (many most : Int) (ps : List Int) : Prop where
  one : 1 ≤ ps.length
  many : ps.length ≤ many
  lo : 0 ≤ ix ps 0
  hi : ix ps 0 ≤ 49
  step : ∀ j, j + 1 < ps.length → 1 ≤ dx ps j ∧ dx ps j ≤ 3 * most
theorem ix_append_lt {xs ys : List Int} {j : Nat} (h : j < xs.length) : ix (xs ++ ys) j = ix xs j := by
  simp [ix, List.getD, List.getElem?_append_left h]
theorem ix_append_at (xs : List Int) (y : Int) : ix (xs ++ [y]) xs.length = y := by simp [ix, List.getD]
theorem PlP.snoc {many most : Int} {ps : List Int} (h : PlP many most ps) (hm : (ps.length : Int) < many) {y : Int} (h1 : 1 ≤ y - ix ps (ps.length - 1)) (h2 : y - ix ps (ps.length - 1) ≤ 3 * most) : PlP many most (ps ++ [y]) := by
  have h0 := h.one
  refine ⟨by simp, by simp; omega, ?_, ?_, fun j hj => ?_⟩
  · rw [ix_append_lt (by omega)]; exact h.lo
  · rw [ix_append_lt (by omega)]; exact h.hi
  · simp only [List.length_append, List.length_cons, List.length_nil] at hj
    by_cases e : j + 1 < ps.length
    · unfold dx
      rw [ix_append_lt e, ix_append_lt (by omega)]
      exact h.step j e
    · obtain rfl : j = ps.length - 1 := by omega
      unfold dx
      rw [show ps.length - 1 + 1 = ps.length by omega, ix_append_at, ix_append_lt (by omega)]
      exact ⟨h1, h2⟩
theorem PlP.bd {many most : Int} {ps : List Int} (h : PlP many most ps) (hm : 0 ≤ most) : ∀ j : Nat, j < ps.length → 0 ≤ ix ps j ∧ ix ps j ≤ 49 + 3 * most * j
  | 0, _ => by have := h.lo; have := h.hi; rw [show ((0 : Nat) : Int) = 0 from rfl, Int.mul_zero]; omega
  | j + 1, hj => by
    have a := h.bd hm j (by omega)
    have b := h.step j hj
    unfold dx at b
    rw [show ((j + 1 : Nat) : Int) = (j : Int) + 1 by omega, Int.mul_add]
    omega
theorem PlP.okP {many most top : Int} {ps : List Int} (h : PlP many most ps) (h2 : 2 ≤ ps.length) (hm : 0 ≤ most) (ht : 49 + 3 * most * (many - 1) ≤ top) : OkP many top ps := by
  have hb := h.bd hm (ps.length - 1) (by omega)
  have := h.many
  have hle : 3 * most * ((ps.length - 1 : Nat) : Int) ≤ 3 * most * (many - 1) := Int.mul_le_mul_of_nonneg_left (by omega) (by omega)
  refine ⟨h2, by omega, h.lo, by omega, fun j hj => ?_⟩
  have := h.step j (by omega)
  unfold dx at this
  omega

/-- a literal of one number is the call's own. -/
theorem ownI_lit (W : World) (x : Int) (base : Nat) (hb : base ≤ W.heap.size) : OwnI (W.alloc (.cells #[.int .i64 x] 3)) base (.slice (some ⟨W.heap.size, 0, none⟩) 1 1) [x] :=
  ⟨rfl, .inr ⟨W.heap.size, 1, #[.int .i64 x], rfl, hb, heap_alloc_new W _, Nat.le_refl _, by unfold maxLen; omega, rfl, rfl⟩⟩

/-- what Places hands back. -/
def RetPl (many most : Int) (w : World) (e : Ending) (w' : World) : Prop :=
  ∃ ps v, e = .returned v ∧ OwnI w' w.heap.size v ps ∧ PlP many most ps ∧ 2 ≤ ps.length ∧ Below w.heap.size w w'

set_option maxHeartbeats 2000000 in
set_option maxRecDepth 4000 in
theorem Places_any (xs : List Int) (A : Option Addr) (c : Nat) (many most : Int) (h2 : 2 ≤ many) (h9 : many ≤ 1000) (m1 : 1 ≤ most) (m2 : most ≤ 1000000) (hc : xs.length ≤ c) (hm : c ≤ 17592186043904) (w : World) (h : RD w w.heap.size A (ints xs)) (bd : ∀ j, -9223372036854775808 ≤ ix xs j ∧ ix xs j ≤ 9223372036854775807) :
    Calls Try.prog 12 #[.slice A xs.length c, .int .i64 many, .int .i64 most] w (RetPl many most w) := by
  obtain ⟨a0, ha0⟩ : ∃ a, atZ xs 0 = a := ⟨_, rfl⟩
  obtain ⟨a1, ha1⟩ : ∃ a, atZ xs 1 = a := ⟨_, rfl⟩
  have b0 := atZ_bd (i := 0) bd
  have b1 := atZ_bd (i := 1) bd
  rw [ha0] at b0
  rw [ha1] at b1
  obtain ⟨b00, b01⟩ := b0
  obtain ⟨b10, b11⟩ := b1
  obtain ⟨r0, hr0⟩ : ∃ a, a0 % 50 = a := ⟨_, rfl⟩
  obtain ⟨r1, hr1⟩ : ∃ a, a1 % most = a := ⟨_, rfl⟩
  have q0 : 0 ≤ r0 ∧ r0 ≤ 49 := by omega
  have q1 : 0 ≤ r1 ∧ r1 < most := by rw [← hr1]; exact ⟨Int.emod_nonneg _ (by omega), Int.emod_lt_of_pos _ (by omega)⟩
  obtain ⟨q00, q01⟩ := q0
  obtain ⟨q10, q11⟩ := q1
  have HA0 := Lib.hid ha0
  have HA1 := Lib.hid ha1
  have HR0 := Lib.hid hr0
  have HR1 := Lib.hid hr1
  have HB := Lib.hid bd
  have H := Lib.hid h
  clear ha0 ha1 hr0 hr1 bd h
  go_enter Try.func12, Try.ntmps12
  go_wp2_with (first | (go_at_call 58; (with_reducible refine (At_is HA0.out A c (by omega) (by omega) hc hm _ H.out).mono ?_); rintro e w' ⟨rfl, rfl⟩) | (go_at_call 13; (with_reducible refine (mod_is HR0.out b00 b01 (by omega) (by omega) _).mono ?_); rintro e w' ⟨rfl, rfl⟩) | (go_at_call 58; (with_reducible refine (At_is HA1.out A c (by omega) (by omega) hc hm _ (H.out.keep (Below.alloc (Below.refl _ _) (Nat.le_refl _) _) (Nat.le_refl _))).mono ?_); rintro e w' ⟨rfl, rfl⟩) | (go_at_call 13; (with_reducible refine (mod_is HR1.out b10 b11 (by omega) (by omega) _).mono ?_); rintro e w' ⟨rfl, rfl⟩))
  go_loopw [7, 8, 9] (fun v s x wr => ∃ (ps : List Int) (t : Int) (k : Nat), x = .int .i64 k ∧ 1 ≤ k ∧ (k = 1 ∨ k ≤ xs.length) ∧ s = .int .i64 t ∧ 1 ≤ t ∧ t ≤ most ∧ OwnI wr w.heap.size v ps ∧ PlP many most ps ∧ Below w.heap.size w wr) (fun _ _ x _ => xs.length - (intOf x).toNat)
  case atStart => exact ⟨[r0], 1 + r1, 1, rfl, by omega, .inl rfl, by first | rfl | go_num, by omega, by omega, ownI_lit _ _ _ (Nat.le_refl _), ⟨by simp, by simp; omega, q00, q01, fun j hj => by simp at hj⟩, by repeat' (first | (with_reducible exact Below.refl _ _) | (with_reducible assumption) | (refine below_step (by assumption) ?_ ?_) | (with_reducible refine below_drewN ?_ _) | (with_reducible refine Below.drew ?_) | (with_reducible refine Below.alloc ?_ ?_ _) | (with_reducible refine Below.setCell ?_ ?_ _) | go_size)⟩
  case round =>
    obtain ⟨ps, t, k, rfl, hk1, hk2, rfl, ht1, ht2, hown, hpl, hbl⟩ := hrel
    obtain ⟨A2, c2, rfl, hc2, hm2, hrd2, hbase, _⟩ := hown.form
    obtain ⟨pm, hpm⟩ : ∃ pm : Nat, ps.length = pm := ⟨_, rfl⟩
    have pm1 : 1 ≤ ps.length := hpl.one
    have pm2 := hpl.many
    have hpb := hpl.bd (by omega) (ps.length - 1) (by omega)
    have hpb2 : 3 * most * ((ps.length - 1 : Nat) : Int) ≤ 3 * 1000000 * 1000 := by
      have := Int.mul_le_mul (show 3 * most ≤ 3 * 1000000 by omega) (show ((ps.length - 1 : Nat) : Int) ≤ 1000 by omega) (by omega) (by omega)
      omega
    obtain ⟨l0, hl0⟩ : ∃ l, ix ps (ps.length - 1) = l := ⟨_, rfl⟩
    rw [hl0] at hpb
    have l1 : 0 ≤ l0 := hpb.1
    have l2 : l0 ≤ 3000000049 := by omega
    obtain ⟨b2, off2, rfl, hb2, hcell2⟩ := hrd2.ints pm1
    have z0 := hcell2 (ps.length - 1) (by omega)
    rw [hl0] at z0
    have HL0 := Lib.hid hl0
    have HO := Lib.hid hown
    have HP := Lib.hid hpl
    have HBL := Lib.hid hbl
    have HZ := Lib.hid (hcell2 0 pm1)
    have hs := hbl.size
    clear hown hpl hbl hrd2 hcell2 hpb hpb2 hl0 hpm hbase
    by_cases hk : k < xs.length
    · by_cases hmy : (ps.length : Int) < many
      · obtain ⟨b1', off1, rfl, hb1, hcell1⟩ := H.out.ints (by omega)
        have y0 := (HBL.out.cell (p := ⟨b1', off1 + k, none⟩) hb1).trans (hcell1 k hk)
        obtain ⟨x0, x1⟩ := HB.out k
        obtain ⟨m5, hm5⟩ : ∃ a, ix xs k % 5 = a := ⟨_, rfl⟩
        have m50 : 0 ≤ m5 ∧ m5 ≤ 4 := by omega
        obtain ⟨m50, m51⟩ := m50
        have HM5 := Lib.hid hm5
        obtain ⟨md, hmd⟩ : ∃ a, (ix xs k).tdiv 5 % most = a := ⟨_, rfl⟩
        have md0 : 0 ≤ md ∧ md < most := by rw [← hmd]; exact ⟨Int.emod_nonneg _ (by omega), Int.emod_lt_of_pos _ (by omega)⟩
        obtain ⟨md0, md1⟩ := md0
        have HMD := Lib.hid hmd
        have hdq : -9223372036854775808 ≤ (ix xs k).tdiv 5 ∧ (ix xs k).tdiv 5 ≤ 9223372036854775807 := by
          have e1 := Int.mul_tdiv_add_tmod (ix xs k) 5
          have e2 := tmod_gt (ix xs k) 5 (by omega)
          have e3 := Int.tmod_lt_of_pos (ix xs k) (show (0 : Int) < 5 by omega)
          omega
        obtain ⟨hdq0, hdq1⟩ := hdq
        have hm3 : 0 ≤ m5 % 3 ∧ m5 % 3 ≤ 2 := by omega
        obtain ⟨hm30, hm31⟩ := hm3
        clear hm5 hmd hcell1
        have hml : ps.length ≤ 1000000 := by omega
        rcases (by omega : m5 = 0 ∨ m5 = 1 ∨ m5 = 2 ∨ m5 = 3 ∨ m5 = 4) with e5 | e5 | e5 | e5 | e5
        all_goals (
          have HM := Lib.hid (HM5.out.trans e5)
          clear HM5 e5 m50 m51 hm30 hm31
          go_wp2_with (first | (go_at_call 13; (with_reducible refine (mod_is HM.out x0 x1 (by omega) (by omega) _).mono ?_); rintro e w' ⟨rfl, rfl⟩) | (go_at_call 13; (with_reducible refine (mod_is HMD.out hdq0 hdq1 (by omega) (by omega) _).mono ?_); rintro e w' ⟨rfl, rfl⟩) | (at_builtin; refine wpList_app1 rfl _ _ rfl w.heap.size _ _ rfl (HO.out.kept (by repeat' (first | (with_reducible exact Below.refl _ _) | (with_reducible assumption) | (refine below_step (by assumption) ?_ ?_) | (with_reducible refine below_drewN ?_ _) | (with_reducible refine Below.drew ?_) | (with_reducible refine Below.alloc ?_ ?_ _) | (with_reducible refine Below.setCell ?_ ?_ _) | go_size)) (Nat.le_refl _)) wr.heap.size 1 _ rfl (cell_new1 _ _ _) hml (by simp; omega) ?_; intro v' w1 hown' hgrow; replace hgrow := app_below HBL.out HO.out hgrow)))
        all_goals exact ⟨⟨_, _, k + 1, by go_num, by omega, .inr (by omega), rfl, by omega, by omega, hown', HP.out.snoc hmy (by rw [HL0.out]; omega) (by rw [HL0.out]; omega), hgrow⟩, by simp [intOf]; omega⟩
      · have hl2 : ¬ ((ps.length : Int) < 2) := by omega
        have hl2' : ¬ (ps.length < 2) := by omega
        go_wp2
        go_ret
        exact ⟨ps, _, rfl, HO.out, HP.out, by omega, HBL.out⟩
    · by_cases hl2 : ps.length < 2
      · have e1 : ps.length - 1 = 0 := by omega
        have z1 := HZ.out
        have l00 : ix ps 0 = l0 := by have := HL0.out; rwa [e1] at this
        rw [l00, Nat.add_zero] at z1
        have L00 := Lib.hid l00
        have E1 := Lib.hid e1
        clear l00 e1 z0
        have hml : ps.length ≤ 1000000 := by omega
        have hlp : 0 < ps.length := pm1
        have hlp' : (0 : Int) < (ps.length : Nat) := by omega
        go_wp2_with (at_builtin; refine wpList_app1 rfl _ _ rfl w.heap.size _ _ rfl (HO.out.kept (by repeat' (first | (with_reducible exact Below.refl _ _) | (with_reducible assumption) | (refine below_step (by assumption) ?_ ?_) | (with_reducible refine below_drewN ?_ _) | (with_reducible refine Below.drew ?_) | (with_reducible refine Below.alloc ?_ ?_ _) | (with_reducible refine Below.setCell ?_ ?_ _) | go_size)) (Nat.le_refl _)) wr.heap.size 1 _ rfl (cell_new1 _ _ _) hml (by simp; omega) ?_; intro v' w1 hown' hgrow; replace hgrow := app_below HBL.out HO.out hgrow)
        go_ret
        exact ⟨_, _, rfl, hown', HP.out.snoc (by omega) (by rw [E1.out, L00.out]; omega) (by rw [E1.out, L00.out]; omega), by simp; omega, hgrow⟩
      · go_wp2
        go_ret
        exact ⟨ps, _, rfl, HO.out, HP.out, by omega, HBL.out⟩

end Go.Proofs.Ytdlmdaononclgaa
