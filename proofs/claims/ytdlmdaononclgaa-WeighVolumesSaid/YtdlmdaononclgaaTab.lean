import Derived.Test.YtdlmdaononclgaaRo
import Derived.Test.YtdlmdaononclgaaVol
import Derived.Test.YtdlmdaononclgaaLawScales
import Derived.Test.YtdlmdaononclgaaVolP2
import Derived.Outline
/- The reference's maker of tables. -/
namespace Go.Proofs.Ytdlmdaononclgaa
open Go.RowKit
set_option linter.unusedVariables false
set_option linter.unusedSimpArgs false

/-- a row of halves. -/
def rowZ (hs : List Int) (m i k : Nat) : List Int := (List.range k).map fun (j : Nat) => atZ hs ((i : Int) * (m : Int) + (j : Int)) % 20001
theorem rowZ_length (hs : List Int) (m i k : Nat) : (rowZ hs m i k).length = k := by simp [rowZ]
theorem rowZ_succ (hs : List Int) (m i k : Nat) : rowZ hs m i (k + 1) = rowZ hs m i k ++ [atZ hs ((i : Int) * (m : Int) + (k : Int)) % 20001] := by simp [rowZ, List.range_succ]
theorem rowZ_ix {hs : List Int} {m i k j : Nat} (h : j < k) : ix (rowZ hs m i k) j = atZ hs ((i : Int) * (m : Int) + (j : Int)) % 20001 := by simp [ix, rowZ, List.getD, h]
theorem rowZ_ok (hs : List Int) (m i : Nat) : rowBad m (rowZ hs m i m) = false := by
  simp only [rowBad, Bool.or_eq_false_iff, Bool.not_eq_false', decide_eq_true_eq]
  refine ⟨rowZ_length .., anyB_no fun j hj => ?_⟩
  rw [rowZ_length] at hj
  rw [rowZ_ix hj]
  simp only [badH, within, Bool.not_eq_false', Bool.and_eq_true, decide_eq_true_eq]
  omega
def rowsZ (hs : List Int) (m k : Nat) : List (List Int) := (List.range k).map fun i => rowZ hs m i m
theorem rowsZ_length (hs : List Int) (m k : Nat) : (rowsZ hs m k).length = k := by simp [rowsZ]
theorem rowsZ_succ (hs : List Int) (m k : Nat) : rowsZ hs m (k + 1) = rowsZ hs m k ++ [rowZ hs m k m] := by simp [rowsZ, List.range_succ]
theorem rowsZ_rx {hs : List Int} {m k i : Nat} (h : i < k) : rx (rowsZ hs m k) i = rowZ hs m i m := by simp [rx, rowsZ, List.getD, h]
theorem rowsZ_table {xs zs : List Int} (hs : List Int) (h1 : OkP 9 100000 xs) (h2 : OkP 7 15000 zs) : tableB xs zs (rowsZ hs zs.length xs.length) = true := by
  simp only [tableB, gridB, Bool.and_eq_true, decide_eq_true_eq, Bool.not_eq_true']
  refine ⟨⟨okP_mk h1, okP_mk h2⟩, rowsZ_length .., anyR_no fun j hj => ?_⟩
  rw [rowsZ_length] at hj
  rw [rowsZ_rx hj]
  exact rowZ_ok ..

/-- the table under way: the box at block q, k rows done. -/
structure TI (V : World) (s1 s2 : Value) (hs : List Int) (m k : Nat) (wr : World) : Prop where
  rows : ∃ v vs, wr.heap[V.heap.size]? = some (.cells #[s1, s2, v] 34 (0, 0)) ∧ RO wr (V.heap.size + 1) v vs (rowsZ hs m k)
  below : Below V.heap.size V wr

def RetTb (w : World) (e : Ending) (w' : World) : Prop := ∃ xs zs rs A1 c1 A2 c2 A3 c3 vs, e = .returned (.agg #[.slice A1 xs.length c1, .slice A2 zs.length c2, .slice A3 rs.length c3]) ∧ TD w' w'.heap.size xs zs rs A1 c1 A2 c2 A3 c3 vs ∧ tableB xs zs rs = true ∧ Below w.heap.size w w'

theorem cells3 {w : World} {q : Nat} {a b c : Value} {t : TypeId} (h : w.heap[q]? = some (.cells #[a, b, c] t (0, 0))) :
    w.cell? ⟨q, 0, none⟩ = some a ∧ w.cell? ⟨q, 1, none⟩ = some b ∧ w.cell? ⟨q, 2, none⟩ = some c ∧ (∀ j, w.frozen? ⟨q, j, none⟩ = false) ∧ q < w.heap.size := by
  refine ⟨?_, ?_, ?_, fun j => by simp [World.frozen?, h], (Array.getElem?_eq_some_iff.1 h).1⟩ <;> (rw [cell_of_row _ q _ _ _ _ h]; rfl)

theorem set3 {w : World} {q : Nat} {a b c v : Value} {t : TypeId} (h : w.heap[q]? = some (.cells #[a, b, c] t (0, 0))) : (w.setCell ⟨q, 2, none⟩ v).heap[q]? = some (.cells #[a, b, v] t (0, 0)) := by
  simp [World.setCell, Array.getElem?_modify, h]
theorem RO.set_box {w : World} {base q : Nat} {v u : Value} {vs : List Value} {rs : List (List Int)} (h : RO w base v vs rs) (hq : q < base) (j : Nat) : RO (w.setCell ⟨q, j, none⟩ u) base v vs rs := by
  have hk : ∀ b, base ≤ b → (w.setCell ⟨q, j, none⟩ u).heap[b]? = w.heap[b]? := fun b hb => Below.heap_setCell _ _ _ _ (show b ≠ q by omega)
  refine ⟨⟨h.own.1, ?_⟩, h.len, fun i hi => (h.each i hi).of_block (fun b hb => hk b ((h.each i hi).at_block hb).1)⟩
  rcases h.own.2 with hn | ⟨g, cap, cur, rfl, h1, hg, rest⟩
  · exact .inl hn
  · exact .inr ⟨g, cap, cur, rfl, h1, (hk g h1).trans hg, rest⟩
theorem OwnR.formN {w : World} {base : Nat} {v : Value} {vs : List Value} (h : OwnR w base v vs) {n : Nat} (hn : vs.length = n) : ∃ A cap, v = .slice A n cap ∧ n ≤ cap := by
  subst hn
  obtain ⟨A, cap, rfl, h1, _⟩ := h.form
  exact ⟨A, cap, rfl, h1⟩
theorem grow_box {q base : Nat} {wr Wi W' : World} {s1 s2 v : Value} {vs : List Value} {t : TypeId} {o : Obj} (hbox : wr.heap[q]? = some (.cells #[s1, s2, v] t (0, 0))) (hown : OwnR wr base v vs) (hqb : q < base) (hbi : Below wr.heap.size wr Wi) (hg : (Wi.alloc o).grownBy W' v.ownBlock) :
    W'.heap[q]? = some (.cells #[s1, s2, v] t (0, 0)) := by
  have hq := (Array.getElem?_eq_some_iff.1 hbox).1
  obtain ⟨_, _, _, _, _, _, hv⟩ := hown.form
  rw [hg.block _ (by rw [World.size_alloc]; have := hbi.size; omega) (fun e => by have := hv _ e.symm; omega), Below.heap_alloc _ _ _ (by have := hbi.size; omega), hbi.block _ hq]
  exact hbox
theorem own_set3 {w : World} {base q : Nat} {v : Value} {xs : List Int} (h : OwnI w base v xs) (hq : q < base) (a b c : Value) : OwnI (((w.setCell ⟨q, 0, none⟩ a).setCell ⟨q, 1, none⟩ b).setCell ⟨q, 2, none⟩ c) base v xs :=
  h.of_block (fun k hk => by
    have hne : k ≠ q := by have := (h.at_block hk).1; omega
    rw [Below.heap_setCell _ _ _ _ hne, Below.heap_setCell _ _ _ _ hne, Below.heap_setCell _ _ _ _ hne])
/-- one row appended and put into the box. -/
theorem TI.next {V wr Wi W' : World} {s1 s2 v v' u : Value} {hs : List Int} {m k : Nat} {vs : List Value} {o : Obj} (hbox : wr.heap[V.heap.size]? = some (.cells #[s1, s2, v] 34 (0, 0))) (hro : RO wr (V.heap.size + 1) v vs (rowsZ hs m k)) (hB : Below V.heap.size V wr)
    (hr : OwnI Wi wr.heap.size u (rowZ hs m k m)) (hbi : Below wr.heap.size wr Wi) (hg : (Wi.alloc o).grownBy W' v.ownBlock) (ho : OwnR W' (V.heap.size + 1) v' (vs ++ [u])) : TI V s1 s2 hs m (k + 1) (W'.setCell ⟨V.heap.size, 2, none⟩ v') := by
  have hq := (Array.getElem?_eq_some_iff.1 hbox).1
  have hro' := hro.kept hbi (Nat.le_refl _)
  have hvb : ∀ b, v.ownBlock = some b → V.heap.size + 1 ≤ b := fun b hb => by
    obtain ⟨_, _, _, _, _, _, h⟩ := hro.own.form
    exact (h b hb).1
  have hbox' : W'.heap[V.heap.size]? = some (.cells #[s1, s2, v] 34 (0, 0)) := by
    rw [hg.block _ (by rw [World.size_alloc]; have := hbi.size; omega) (fun e => by have := hvb _ e.symm; omega), Below.heap_alloc _ _ _ (by have := hbi.size; omega), hbi.block _ hq]
    exact hbox
  refine ⟨⟨v', vs ++ [u], set3 hbox', ?_⟩, ?_⟩
  · rw [rowsZ_succ]
    exact (hro'.push (hr.less (by omega)) hg ho).set_box (by omega) 2
  · have h1 : Below V.heap.size V Wi := hB.trans (hbi.mono (by omega))
    have h2 : Below V.heap.size V (Wi.alloc o) := h1.alloc h1.size o
    exact (h2.grown hg (by have := h2.size; omega) (fun b hb => by have := hvb b hb; omega)).setCell (Nat.le_refl _) _

set_option maxHeartbeats 4000000 in
set_option maxRecDepth 10000 in
theorem Table_any (sx zx hs : List Int) (A1 : Option Addr) (c1 : Nat) (A2 : Option Addr) (c2 : Nat) (A3 : Option Addr) (c3 : Nat) (hc1 : sx.length ≤ c1) (hm1 : c1 ≤ 17592186043904) (hc2 : zx.length ≤ c2) (hm2 : c2 ≤ 17592186043904) (hc3 : hs.length ≤ c3) (hm3 : c3 ≤ 17592186043904) (w : World)
    (h1 : RD w w.heap.size A1 (ints sx)) (h2 : RD w w.heap.size A2 (ints zx)) (h3 : RD w w.heap.size A3 (ints hs)) (bd1 : ∀ j, -9223372036854775808 ≤ ix sx j ∧ ix sx j ≤ 9223372036854775807) (bd2 : ∀ j, -9223372036854775808 ≤ ix zx j ∧ ix zx j ≤ 9223372036854775807) (bd3 : ∀ j, -9223372036854775808 ≤ ix hs j ∧ ix hs j ≤ 9223372036854775807) :
    Calls Try.prog 17 #[.slice A1 sx.length c1, .slice A2 zx.length c2, .slice A3 hs.length c3] w (RetTb w) := by
  have P1 : Hid (∀ W, Below w.heap.size w W → Calls Try.prog 12 #[.slice A1 sx.length c1, .int .i64 9, .int .i64 3000] W (RetPl 9 3000 W)) := Lib.hid (fun W hb => Places_any sx A1 c1 9 3000 (by omega) (by omega) (by omega) (by omega) hc1 hm1 W ((h1.keep hb (Nat.le_refl _)).more hb.size) bd1)
  have P2 : Hid (∀ W, Below w.heap.size w W → Calls Try.prog 12 #[.slice A2 zx.length c2, .int .i64 7, .int .i64 600] W (RetPl 7 600 W)) := Lib.hid (fun W hb => Places_any zx A2 c2 7 600 (by omega) (by omega) (by omega) (by omega) hc2 hm2 W ((h2.keep hb (Nat.le_refl _)).more hb.size) bd2)
  have H3 := Lib.hid h3
  have B3 := Lib.hid bd3
  clear h1 h2 h3 bd1 bd2 bd3
  go_enter Try.func17, Try.ntmps17
  go_wp2_with fail
  refine (P1.out _ (Below.alloc (Below.refl _ _) (Nat.le_refl _) _)).mono ?_
  rintro e V1 ⟨ps, v1, rfl, ho1, hp1, hl1, hb1⟩
  obtain ⟨q1, k1, rfl, hk1, hkm1, _⟩ := ho1.formN rfl
  have hbV1 : Below w.heap.size w V1 := below_step hb1 (Below.alloc (Below.refl _ _) (Nat.le_refl _) _) (by simp)
  have hbx : V1.heap[w.heap.size]? = some (.cells #[.slice none 0 0, .slice none 0 0, .slice none 0 0] 34 (0, 0)) := by
    rw [hb1.block _ (by simp)]; exact heap_alloc_new w _
  have HBX := Lib.hid hbx
  have HO1 := Lib.hid ho1
  have HP1 := Lib.hid hp1
  have HB1 := Lib.hid hbV1
  have HS1 := Lib.hid hb1.size
  clear hbx ho1 hp1 hbV1 hb1
  go_wp2_with fail
  refine (P2.out _ HB1.out).mono ?_
  rintro e V2 ⟨zs, v2, rfl, ho2, hp2, hl2, hb2⟩
  obtain ⟨q2, k2, rfl, hk2, hkm2, _⟩ := ho2.formN rfl
  have n9 : ps.length ≤ 9 := by have := HP1.out.many; omega
  have m7 : zs.length ≤ 7 := by have := hp2.many; omega
  have T1 : Hid (OkP 9 100000 ps) := Lib.hid (HP1.out.okP hl1 (by omega) (by omega))
  have T2 : Hid (OkP 7 15000 zs) := Lib.hid (hp2.okP hl2 (by omega) (by omega))
  have hbx2 : V2.heap[w.heap.size]? = some (.cells #[.slice none 0 0, .slice none 0 0, .slice none 0 0] 34 (0, 0)) := by
    rw [hb2.block _ (Array.getElem?_eq_some_iff.1 HBX.out).1]; exact HBX.out
  have hz : w.heap.size < V2.heap.size := (Array.getElem?_eq_some_iff.1 hbx2).1
  have HBX2 := Lib.hid hbx2
  have HO1' := Lib.hid (HO1.out.kept hb2 (Nat.le_refl _))
  have HO2 := Lib.hid ho2
  have HB2 := Lib.hid (below_step hb2 HB1.out HB1.out.size)
  have hz1 : w.heap.size < V1.heap.size := by have := HS1.out; simp only [World.size_alloc] at this; omega
  clear hbx2 HBX HO1 HP1 hp2 ho2 hb2 HB1 HS1 P1 P2
  obtain ⟨n, hn⟩ : ∃ n, ps.length = n := ⟨_, rfl⟩
  obtain ⟨m, hm⟩ : ∃ m, zs.length = m := ⟨_, rfl⟩
  have HN := Lib.hid hn
  have HM := Lib.hid hm
  rw [hn] at hl1 n9 hk1
  rw [hm] at hl2 m7 hk2
  rw [hn, hm]
  clear hn hm
  go_wp2
  go_loopw [8] (fun x wr => ∃ k : Nat, k ≤ n ∧ x = .int .i64 k ∧ TI V2 (.slice q1 n k1) (.slice q2 m k2) hs m k wr) (fun x _ => n - (intOf x).toNat)
  case atStart => exact ⟨0, by omega, rfl, ⟨⟨.slice none 0 0, [], heap_alloc_new V2 _, RO.nil _ _⟩, Below.alloc (Below.refl _ _) (Nat.le_refl _) _⟩⟩
  case round =>
    obtain ⟨k, hk, rfl, hti⟩ := hrel
    obtain ⟨⟨v, vs, hbox, hro⟩, hB⟩ := hti
    obtain ⟨d0, d1, d2, df, dq⟩ := cells3 hbox
    have df2 := df 2
    have HBOX := Lib.hid hbox
    have HRO := Lib.hid hro
    have HB := Lib.hid hB
    clear hbox hro hB df
    by_cases hk' : k < n
    · obtain ⟨wo, rfl⟩ : ∃ wo : World, wo = wr := ⟨_, rfl⟩
      go_wp2
      go_loopw [9, 10] (fun v9 x wr' => ∃ j : Nat, j ≤ m ∧ x = .int .i64 j ∧ OwnI wr' wo.heap.size v9 (rowZ hs m k j) ∧ Below wo.heap.size wo wr') (fun _ x _ => m - (intOf x).toNat)
      case atStart => exact ⟨0, by omega, rfl, OwnI.nil _ _, Below.refl _ _⟩
      case round =>
        obtain ⟨j, hj, rfl, hown, hbl⟩ := hrel
        have e0 := cell_later hbl d0
        have e1 := cell_later hbl d1
        have e2 := cell_later hbl d2
        have ez := hbl.size
        have ef : wr.frozen? ⟨V2.heap.size, 2, none⟩ = false := by rw [hbl.frozen (p := ⟨V2.heap.size, 2, none⟩) dq]; exact df2
        have HO := Lib.hid hown
        have HL := Lib.hid hbl
        clear hown hbl
        by_cases hj' : j < m
        · obtain ⟨p0, p1⟩ := mulbd (x := (k : Int)) (y := (m : Int)) (M := 9) (N := 7) (by omega) (by omega) (by omega) (by omega)
          have w1 : IntKind.i64.wrap ((k : Int) * (m : Int)) = (k : Int) * (m : Int) := IntWalk.i64_in _ ⟨by omega, by omega⟩
          have w2 : IntKind.i64.wrap ((k : Int) * (m : Int) + (j : Int)) = (k : Int) * (m : Int) + (j : Int) := IntWalk.i64_in _ ⟨by omega, by omega⟩
          obtain ⟨a, ha⟩ : ∃ a, atZ hs ((k : Int) * (m : Int) + (j : Int)) = a := ⟨_, rfl⟩
          obtain ⟨a0, a1⟩ := atZ_bd (i := (k : Int) * (m : Int) + (j : Int)) B3.out
          rw [ha] at a0 a1
          obtain ⟨r, hr⟩ : ∃ r, a % 20001 = r := ⟨_, rfl⟩
          have HAT : Hid (∀ W, Below wo.heap.size wo W → Calls Try.prog 58 #[.slice A3 hs.length c3, .int .i64 ((k : Int) * (m : Int) + (j : Int))] W fun e w' => e = .returned (.int .i64 a) ∧ W = w') := Lib.hid (fun W hb => At_is ha A3 c3 (by omega) (by omega) hc3 hm3 W (H3.out.keep (below_step (below_step hb HB.out HB.out.size) HB2.out HB2.out.size) (Nat.le_refl _)))
          have HMD : Hid (∀ W, Calls Try.prog 13 #[.int .i64 a, .int .i64 20001] W fun e w' => e = .returned (.int .i64 r) ∧ W = w') := Lib.hid (mod_is hr a0 a1 (by omega) (by omega))
          have HR := Lib.hid (show rowZ hs m k (j + 1) = rowZ hs m k j ++ [r] by rw [rowZ_succ, ha, hr])
          have hml : (rowZ hs m k j).length ≤ 1000000 := by rw [rowZ_length]; omega
          clear ha hr p0 p1 a0 a1
          go_wp2_with (first | (go_at_call 58; (with_reducible refine (HAT.out _ HL.out).mono ?_); rintro e w' ⟨rfl, rfl⟩) | (go_at_call 13; (with_reducible refine (HMD.out _).mono ?_); rintro e w' ⟨rfl, rfl⟩) | (at_builtin; refine wpList_app1 rfl _ _ rfl wo.heap.size _ _ rfl (HO.out.kept (by repeat' (first | (with_reducible exact Below.refl _ _) | (with_reducible assumption) | (refine below_step (by assumption) ?_ ?_) | (with_reducible refine below_drewN ?_ _) | (with_reducible refine Below.drew ?_) | (with_reducible refine Below.alloc ?_ ?_ _) | (with_reducible refine Below.setCell ?_ ?_ _) | go_size)) (Nat.le_refl _)) wr.heap.size 1 _ rfl (cell_new1 _ _ _) hml (by simp; omega) ?_; intro v' w' hown' hgrow; replace hgrow := app_below HL.out HO.out hgrow))
          go_roundw
          case rel => exact ⟨j + 1, by omega, by go_num, by rw [HR.out]; exact hown', hgrow⟩
          case measure => simp [intOf]; omega
        · obtain rfl : j = m := by omega
          obtain ⟨A9, c9, rfl, _, _, _⟩ := HO.out.formN (rowZ_length hs j k j)
          have hvl : vs.length ≤ 1000000 := by rw [HRO.out.len, rowsZ_length]; omega
          go_wp2_with (at_builtin; refine wpList_appR rfl _ _ rfl (V2.heap.size + 1) _ _ rfl (HRO.out.own.kept (below_step (Below.alloc (Below.refl _ _) (Nat.le_refl _) _) HL.out HL.out.size) (Nat.le_refl _)) wr.heap.size 1 _ _ _ rfl (cell_new1 _ _ _) hvl (by simp; omega) ?_; intro v' w' hown' hgrow; obtain ⟨Ah, ch, rfl, _⟩ := hown'.formN (n := vs.length + 1) (by simp); obtain ⟨_, _, _, df', dq'⟩ := cells3 (grow_box HBOX.out HRO.out.own (by omega) HL.out hgrow); have df2' := df' 2; have HG := Lib.hid hgrow; have HW := Lib.hid hown'; clear hgrow hown' df')
          go_roundw
          case rel => exact ⟨k + 1, by omega, by go_num, TI.next HBOX.out HRO.out HB.out HO.out HL.out HG.out HW.out⟩
          case measure => simp [intOf]; omega
    · obtain rfl : k = n := by omega
      obtain ⟨A3', c3', rfl, hc3', hm3', hrr⟩ := HRO.out.rr (rowsZ_length hs m k)
      have f0 : wr.heap[w.heap.size]? = some (.cells #[.slice none 0 0, .slice none 0 0, .slice none 0 0] 34 (0, 0)) := by rw [HB.out.block _ hz]; exact HBX2.out
      obtain ⟨g0, g1, g2, ff, fq⟩ := cells3 f0
      have f1 := ff 0
      have f2 := ff 1
      have f3 := ff 2
      have HF := Lib.hid f0
      have hrr' := Lib.hid hrr
      clear f0 ff hrr
      go_wp2
      refine bodyPost_ret (by simp [results, Try.results17, go_sem, *]; try rfl) rfl ?_
      have hn := HN.out
      have hm := HM.out
      subst hn
      subst hm
      have o1 := own_set3 (q := w.heap.size) (HO1'.out.kept HB.out (Nat.le_refl _)) (by simp) (.slice q1 ps.length k1) (.slice q2 zs.length k2) (.slice A3' ps.length c3')
      have o2 := own_set3 (q := w.heap.size) (HO2.out.kept HB.out (Nat.le_refl _)) hz1 (.slice q1 ps.length k1) (.slice q2 zs.length k2) (.slice A3' ps.length c3')
      obtain ⟨_, _, e1, _, _, r1, _⟩ := o1.form
      obtain ⟨_, _, e2, _, _, r2, _⟩ := o2.form
      cases e1
      cases e2
      have o3 := ((HRO.out.set_box (u := .slice q1 ps.length k1) (show w.heap.size < V2.heap.size + 1 by omega) 0).set_box (u := .slice q2 zs.length k2) (show w.heap.size < V2.heap.size + 1 by omega) 1).set_box (u := .slice A3' ps.length c3') (show w.heap.size < V2.heap.size + 1 by omega) 2
      obtain ⟨_, _, e3, h31, h32, r3⟩ := o3.rr (rowsZ_length hs zs.length ps.length)
      cases e3
      refine ⟨ps, zs, rowsZ hs zs.length ps.length, q1, k1, q2, k2, A3', c3', vs, by rw [rowsZ_length], ⟨hk1, hkm1, r1, hk2, hkm2, r2, by rw [rowsZ_length]; exact h31, h32, r3⟩, rowsZ_table hs T1.out T2.out, ?_⟩
      have hbw : Below w.heap.size w wr := below_step HB.out HB2.out HB2.out.size
      repeat' (first | (with_reducible exact Below.refl _ _) | (with_reducible assumption) | (refine below_step (by assumption) ?_ ?_) | (with_reducible refine below_drewN ?_ _) | (with_reducible refine Below.drew ?_) | (with_reducible refine Below.alloc ?_ ?_ _) | (with_reducible refine Below.setCell ?_ ?_ _) | go_size)

end Go.Proofs.Ytdlmdaononclgaa
