import Derived.Test.YtdlmdaononclgaaDoorRefG
import Derived.Test.YtdlmdaononclgaaDoorWt3
/- The reference's weights. -/
namespace Go.Proofs.YtdlmdaononclgaaDoor
open Go.RowKit
set_option linter.unusedVariables false
set_option linter.unusedSimpArgs false

theorem times_is {a b r : Int} (h : timesZ a b = r) (a0 : 0 < a) (b0 : 0 < b) (a1 : a ≤ 2305843009213693951) (b1 : b ≤ 2305843009213693951) (w : World) :
    Calls Tryd.prog 39 #[.int .i64 a, .int .i64 b] w fun e w' => e = .returned (.int .i64 r) ∧ w = w' := by
  subst h; exact times_any a b a0 b0 a1 b1 w
theorem acc2 {cur ws : List Int} {fr : Nat} {u v : Int} (h0 : u = ix ws 0) (h1 : v = ix ws 1) : (cur.set fr (ix cur fr + u)).set (fr + 1) (ix cur (fr + 1) + v) = addK cur fr ws 2 := by
  subst h0; subst h1; rfl
theorem acc3 {cur ws : List Int} {fr : Nat} {u v t : Int} (h0 : u = ix ws 0) (h1 : v = ix ws 1) (h2 : t = ix ws 2) : ((cur.set fr (ix cur fr + u)).set (fr + 1) (ix cur (fr + 1) + v)).set (fr + 2) (ix cur (fr + 2) + t) = addK cur fr ws 3 := by
  subst h0; subst h1; subst h2; rfl
theorem acc3' {cur ws : List Int} {fr : Nat} {u v t : Int} (h0 : u = ix cur fr + ix ws 0) (h1 : v = ix cur (fr + 1) + ix ws 1) (h2 : t = ix cur (fr + 2) + ix ws 2) : ((cur.set fr u).set (fr + 1) v).set (fr + 2) t = addK cur fr ws 3 := by
  subst h0; subst h1; subst h2; rfl
theorem Arr.to {w : World} {g : Nat} {xs ys : List Int} (h : Arr w g xs) (e : xs = ys) : Arr w g ys := e ▸ h
theorem timesZ_1 (a : Int) : timesZ a a = 1 := if_pos rfl
theorem timesZ_2 {a : Int} (h : 0 < a) : timesZ a (2 * a) = 2 := by unfold timesZ; rw [if_neg (by omega), if_pos (by omega)]
theorem timesZ_3 {a : Int} (h : 0 < a) : timesZ a (3 * a) = 3 := by unfold timesZ; rw [if_neg (by omega), if_neg (by omega), if_pos (by omega)]
theorem timesZ_4 {a : Int} (h : 0 < a) : timesZ (2 * a) a = 2 := by unfold timesZ; rw [if_neg (by omega), if_pos (by omega)]
theorem timesZ_5 {a : Int} (h : 0 < a) : timesZ (3 * a) a = 3 := by unfold timesZ; rw [if_neg (by omega), if_neg (by omega), if_pos (by omega)]

set_option maxHeartbeats 4000000 in
set_option maxRecDepth 100000 in
theorem refweights_any (xs : List Int) (A : Option Addr) (c : Nat) (hP : OkP 9 100000 xs) (hc : xs.length ≤ c) (hm : c ≤ 9223372036854775807) (w : World) (h : RD w w.heap.size A (ints xs)) :
    Calls Tryd.prog 19 #[.slice A xs.length c] w (RetInts (weightsZ xs) w) := by
  have hlen : xs.length ≤ 9 := by have := hP.many; omega
  have hl2 := hP.two
  obtain ⟨b, off, rfl, hb, hcell⟩ := h.ints (by omega)
  have HC := Lib.hid hcell
  have H := Lib.hid h
  clear hcell h
  have hmk := make_ints xs.length (by omega)
  go_enter Tryd.func19, Tryd.ntmps19
  go_wp2_with fail
  refine (refgroups_any xs _ c hP hc hm _ ((H.out.keep (Below.alloc (Below.refl _ _) (Nat.le_refl _) _) (Nat.le_refl _)).more (by rw [World.size_alloc]; omega))).mono ?_
  rintro e w2 ⟨v, rfl, hown, hb2⟩
  obtain ⟨A2, c2, rfl, hc2, hm2, hgd, _⟩ := hown.form
  have hz := Arr.zeros w xs.length
  have ha2 := hz.of_block (hb2.block _ hz.lt)
  have hB2 : Below w.heap.size w w2 := below_step hb2 (Below.alloc (Below.refl _ _) (Nat.le_refl _) _) (by rw [World.size_alloc]; omega)
  have hs2 : w.heap.size < w2.heap.size := ha2.lt
  have hgb : ∀ b' off', A2 = some ⟨b', off', none⟩ → b' ≠ w.heap.size := fun b' off' e hb' => by
    obtain ⟨_, _, e1, _, _, _, hbase, _⟩ := hown.form
    simp only [Value.slice.injEq] at e1
    have := (hbase b' off' (by rw [← e1.1]; exact e)).1
    rw [World.size_alloc] at this
    omega
  have HG := Lib.hid hgd
  have HGB := Lib.hid hgb
  have HA2 := Lib.hid ha2
  have HB2 := Lib.hid hB2
  have hgl : (groupsZ xs).length ≤ 9 := by have := groups_length xs; omega
  clear hown hb2 hgd hgb hz ha2 hB2
  go_wp2_with fail
  go_loopw [5] (fun x wr => ∃ i : Nat, i ≤ (groupsZ xs).length ∧ x = .int .i64 i ∧ Arr wr w.heap.size (wtAcc xs i) ∧ Only w.heap.size w2 wr) (fun x _ => (groupsZ xs).length - (intOf x).toNat)
  case atStart => exact ⟨0, by omega, rfl, HA2.out, Only.refl _ _⟩
  case round =>
    obtain ⟨i, hi, rfl, har, hon⟩ := hrel
    have hrs : wr.heap.size = w2.heap.size := hon.size
    have HAR := Lib.hid har
    have HON := Lib.hid hon
    clear har hon
    by_cases hil : i < (groupsZ xs).length
    · have hx : (groupsZ xs)[i]? = some (gx (groupsZ xs) i) := gx_get hil
      obtain ⟨j, hj, hcase⟩ := group_at hx
      obtain ⟨b2, off2, rfl, hb2, hgc⟩ := HG.out.at (by omega)
      obtain ⟨gc0, gc1⟩ := hgc i hil
      have hne := HGB.out _ _ rfl
      have p0 := (HON.out.cell (p := ⟨b2, off2 + i * 2, none⟩) hne).trans gc0
      have p1 := (HON.out.cell (p := ⟨b2, off2 + i * 2 + 1, none⟩) hne).trans gc1
      have hbd := wtAcc_bd hP (by omega) i (by omega)
      have HBD := Lib.hid hbd
      have f0 := hP.lo j (by omega)
      have f1 := hP.dif j hj
      have g0 := hP.hi' j (by omega)
      have g1 := hP.hi' (j + 1) (by omega)
      obtain ⟨d1, hd1⟩ : ∃ d, dx xs j = d := ⟨_, rfl⟩
      have hd1' : ix xs (j + 1) - ix xs j = d1 := hd1
      rw [hd1'] at f1
      obtain ⟨f11, f12⟩ := f1
      have e1 : IntKind.i64.wrap (ix xs (j + 1) - ix xs j) = d1 := by rw [hd1']; exact IntWalk.i64_in _ ⟨by omega, by omega⟩
      have hbne : b ≠ w.heap.size := by omega
      have yc : ∀ k, k < xs.length → wr.cell? ⟨b, off + k, none⟩ = some (.int .i64 (ix xs k)) := fun k hk =>
        ((HON.out.cell (p := ⟨b, off + k, none⟩) hbne).trans (HB2.out.cell (p := ⟨b, off + k, none⟩) hb)).trans (HC.out k hk)
      have y0 := yc j (by omega)
      have y1 := yc (j + 1) (by omega)
      have hal : (wtAcc xs i).length = xs.length := wtAcc_length xs i
      have z0 := HAR.out.cell (j := j) (by omega)
      have z1 := HAR.out.cell (j := j + 1) (by omega)
      have zf0 := HAR.out.free j
      have zf1 := HAR.out.free (j + 1)
      have q0 := hbd j
      have q1 := hbd (j + 1)
      have q00 : -180000000 ≤ ix (wtAcc xs i) j ∧ ix (wtAcc xs i) j ≤ 180000000 := by omega
      have q10 : -180000000 ≤ ix (wtAcc xs i) (j + 1) ∧ ix (wtAcc xs i) (j + 1) ≤ 180000000 := by omega
      obtain ⟨q00, q01⟩ := q00
      obtain ⟨q10, q11⟩ := q10
      have HX := Lib.hid hx
      have HD1 := Lib.hid hd1
      have HY := Lib.hid yc
      have hle : j + 1 < xs.length := hj
      clear hbd q0 q1 hx hd1 yc hal gc0 gc1 hgc g0 g1 f0
      rcases hcase with ⟨hxe, hm1⟩ | ⟨hxe, hm2, hj2, hpair⟩
      · rw [hxe] at p0 p1
        have HXE := Lib.hid hxe
        clear hxe hm1
        go_wp2
        go_quiet (fail)
        go_wp2
        go_roundw
        case rel =>
          refine ⟨i + 1, by omega, by go_num, ?_, ?_⟩
          · rw [wtAcc_succ HX.out, HXE.out]
            refine Arr.of_block (Arr.to (((HAR.out.of_block rfl).set j _).set (j + 1) _) (?_ : _ = addG xs (wtAcc xs i) ((j : Int), 1))) rfl
            simp only [addG, if_true, Int.toNat_natCast, HD1.out]
            exact acc2 (by simp only [ix_cons_zero]) (by simp only [ix_cons_zero, ix_cons_succ])
          · exact HON.out.trans (by first | exact ((Only.refl _ _).setCell _ _).setCell _ _ | exact (((Only.refl _ _).setCell _ _).setCell _ _).drewN _ | exact (((Only.refl _ _).drewN _).setCell _ _).setCell _ _)
        case measure => simp [intOf]; omega
      · rw [hxe] at p0 p1
        have HXE := Lib.hid hxe
        have f2 := hP.dif (j + 1) (by omega)
        rw [show j + 1 + 1 = j + 2 from rfl] at f2
        have g2 := hP.hi' (j + 2) (by omega)
        obtain ⟨d2, hd2⟩ : ∃ d, dx xs (j + 1) = d := ⟨_, rfl⟩
        have hd2' : ix xs (j + 2) - ix xs (j + 1) = d2 := hd2
        rw [hd2'] at f2
        obtain ⟨f21, f22⟩ := f2
        have e2 : IntKind.i64.wrap (ix xs (j + 2) - ix xs (j + 1)) = d2 := by rw [hd2']; exact IntWalk.i64_in _ ⟨by omega, by omega⟩
        have y2 := HY.out (j + 2) (by omega)
        have z2 := HAR.out.cell (j := j + 2) (by rw [wtAcc_length]; omega)
        have zf2 := HAR.out.free (j + 2)
        have q2 := HBD.out (j + 2)
        have q20 : -180000000 ≤ ix (wtAcc xs i) (j + 2) ∧ ix (wtAcc xs i) (j + 2) ≤ 180000000 := by omega
        obtain ⟨q20, q21⟩ := q20
        have HD2 := Lib.hid hd2
        rw [HD1.out, hd2] at hpair
        clear hm2 hxe hd2 q2 g2 hd2'
        rcases pair_cases f11 f21 hpair with ⟨e, _⟩ | ⟨e, _⟩ | ⟨e, _⟩ | ⟨e, _⟩ | ⟨e, _⟩
        · subst e
          have HT := Lib.hid (timesZ_1 d1)
          clear hpair
          go_wp2
          go_quiet (fail)
          go_wp2
          go_quiet (fail)
          go_wp2_with (go_at_call 39; (with_reducible refine (times_is HT.out (by omega) (by omega) (by omega) (by omega) _).mono ?_); rintro e w' ⟨rfl, rfl⟩)
          go_roundw
          case rel =>
            refine ⟨i + 1, by omega, by go_num, ?_, ?_⟩
            · rw [wtAcc_succ HX.out, HXE.out]
              refine Arr.of_block (Arr.to ((((HAR.out.of_block rfl).set j _).set (j + 1) _).set (j + 2) _) (?_ : _ = addG xs (wtAcc xs i) ((j : Int), 2))) rfl
              simp only [addG, Int.toNat_natCast, HD1.out, HD2.out]
              rw [if_neg (by omega)]
              exact acc3' (by rw [grpW_1]; simp only [ix_cons_zero, ix_cons_succ]; try omega) (by rw [grpW_1]; simp only [ix_cons_zero, ix_cons_succ]; try omega) (by rw [grpW_1]; simp only [ix_cons_zero, ix_cons_succ]; try omega)
            · exact HON.out.trans (by first | exact (((Only.refl _ _).setCell _ _).setCell _ _).setCell _ _ | exact ((((Only.refl _ _).setCell _ _).setCell _ _).setCell _ _).drewN _ | exact ((((Only.refl _ _).drewN _).setCell _ _).setCell _ _).setCell _ _)
          case measure => simp [intOf]; omega
        · subst e
          have HT := Lib.hid (timesZ_2 f11)
          clear hpair
          go_wp2
          go_quiet (fail)
          go_wp2
          go_quiet (fail)
          go_wp2_with (go_at_call 39; (with_reducible refine (times_is HT.out (by omega) (by omega) (by omega) (by omega) _).mono ?_); rintro e w' ⟨rfl, rfl⟩)
          go_roundw
          case rel =>
            refine ⟨i + 1, by omega, by go_num, ?_, ?_⟩
            · rw [wtAcc_succ HX.out, HXE.out]
              refine Arr.of_block (Arr.to ((((HAR.out.of_block rfl).set j _).set (j + 1) _).set (j + 2) _) (?_ : _ = addG xs (wtAcc xs i) ((j : Int), 2))) rfl
              simp only [addG, Int.toNat_natCast, HD1.out, HD2.out]
              rw [if_neg (by omega)]
              exact acc3' (by rw [grpW_2 f11]; simp only [ix_cons_zero, ix_cons_succ]; try omega) (by rw [grpW_2 f11]; simp only [ix_cons_zero, ix_cons_succ]; try omega) (by rw [grpW_2 f11]; simp only [ix_cons_zero, ix_cons_succ]; try omega)
            · exact HON.out.trans (by first | exact (((Only.refl _ _).setCell _ _).setCell _ _).setCell _ _ | exact ((((Only.refl _ _).setCell _ _).setCell _ _).setCell _ _).drewN _ | exact ((((Only.refl _ _).drewN _).setCell _ _).setCell _ _).setCell _ _)
          case measure => simp [intOf]; omega
        · subst e
          have HT := Lib.hid (timesZ_3 f11)
          clear hpair
          go_wp2
          go_quiet (fail)
          go_wp2
          go_quiet (fail)
          go_wp2_with (go_at_call 39; (with_reducible refine (times_is HT.out (by omega) (by omega) (by omega) (by omega) _).mono ?_); rintro e w' ⟨rfl, rfl⟩)
          go_roundw
          case rel =>
            refine ⟨i + 1, by omega, by go_num, ?_, ?_⟩
            · rw [wtAcc_succ HX.out, HXE.out]
              refine Arr.of_block (Arr.to ((((HAR.out.of_block rfl).set j _).set (j + 1) _).set (j + 2) _) (?_ : _ = addG xs (wtAcc xs i) ((j : Int), 2))) rfl
              simp only [addG, Int.toNat_natCast, HD1.out, HD2.out]
              rw [if_neg (by omega)]
              exact acc3' (by rw [grpW_3 f11]; simp only [ix_cons_zero, ix_cons_succ]; try omega) (by rw [grpW_3 f11]; simp only [ix_cons_zero, ix_cons_succ]; try omega) (by rw [grpW_3 f11]; simp only [ix_cons_zero, ix_cons_succ]; try omega)
            · exact HON.out.trans (by first | exact (((Only.refl _ _).setCell _ _).setCell _ _).setCell _ _ | exact ((((Only.refl _ _).setCell _ _).setCell _ _).setCell _ _).drewN _ | exact ((((Only.refl _ _).drewN _).setCell _ _).setCell _ _).setCell _ _)
          case measure => simp [intOf]; omega
        · subst e
          have HT := Lib.hid (timesZ_4 f21)
          clear hpair
          go_wp2
          go_quiet (fail)
          go_wp2
          go_quiet (fail)
          go_wp2_with (go_at_call 39; (with_reducible refine (times_is HT.out (by omega) (by omega) (by omega) (by omega) _).mono ?_); rintro e w' ⟨rfl, rfl⟩)
          go_roundw
          case rel =>
            refine ⟨i + 1, by omega, by go_num, ?_, ?_⟩
            · rw [wtAcc_succ HX.out, HXE.out]
              refine Arr.of_block (Arr.to ((((HAR.out.of_block rfl).set j _).set (j + 1) _).set (j + 2) _) (?_ : _ = addG xs (wtAcc xs i) ((j : Int), 2))) rfl
              simp only [addG, Int.toNat_natCast, HD1.out, HD2.out]
              rw [if_neg (by omega)]
              exact acc3' (by rw [grpW_4 f21]; simp only [ix_cons_zero, ix_cons_succ]; try omega) (by rw [grpW_4 f21]; simp only [ix_cons_zero, ix_cons_succ]; try omega) (by rw [grpW_4 f21]; simp only [ix_cons_zero, ix_cons_succ]; try omega)
            · exact HON.out.trans (by first | exact (((Only.refl _ _).setCell _ _).setCell _ _).setCell _ _ | exact ((((Only.refl _ _).setCell _ _).setCell _ _).setCell _ _).drewN _ | exact ((((Only.refl _ _).drewN _).setCell _ _).setCell _ _).setCell _ _)
          case measure => simp [intOf]; omega
        · subst e
          have HT := Lib.hid (timesZ_5 f21)
          clear hpair
          go_wp2
          go_quiet (fail)
          go_wp2
          go_quiet (fail)
          go_wp2_with (go_at_call 39; (with_reducible refine (times_is HT.out (by omega) (by omega) (by omega) (by omega) _).mono ?_); rintro e w' ⟨rfl, rfl⟩)
          go_roundw
          case rel =>
            refine ⟨i + 1, by omega, by go_num, ?_, ?_⟩
            · rw [wtAcc_succ HX.out, HXE.out]
              refine Arr.of_block (Arr.to ((((HAR.out.of_block rfl).set j _).set (j + 1) _).set (j + 2) _) (?_ : _ = addG xs (wtAcc xs i) ((j : Int), 2))) rfl
              simp only [addG, Int.toNat_natCast, HD1.out, HD2.out]
              rw [if_neg (by omega)]
              exact acc3' (by rw [grpW_5 f21]; simp only [ix_cons_zero, ix_cons_succ]; try omega) (by rw [grpW_5 f21]; simp only [ix_cons_zero, ix_cons_succ]; try omega) (by rw [grpW_5 f21]; simp only [ix_cons_zero, ix_cons_succ]; try omega)
            · exact HON.out.trans (by first | exact (((Only.refl _ _).setCell _ _).setCell _ _).setCell _ _ | exact ((((Only.refl _ _).setCell _ _).setCell _ _).setCell _ _).drewN _ | exact ((((Only.refl _ _).drewN _).setCell _ _).setCell _ _).setCell _ _)
          case measure => simp [intOf]; omega
    · obtain rfl : i = (groupsZ xs).length := by omega
      go_wp2
      go_ret
      have e : (weightsZ xs).length = xs.length := wtAcc_length xs _
      refine ⟨w.heap.size, by rw [e]; rfl, Nat.le_refl _, HAR.out, ?_⟩
      exact HB2.out.trans ⟨HON.out.os, HON.out.tape, HON.out.output, by rw [HON.out.size]; exact Nat.le_refl _, fun k hk => HON.out.block k (by omega)⟩

end Go.Proofs.YtdlmdaononclgaaDoor
