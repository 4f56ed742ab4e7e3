import Derived.Test.YtdlmdaononclgaaArea
/- moment. -/
namespace Go.Proofs.Ytdlmdaononclgaa
open Go.RowKit
set_option linter.unusedVariables false
set_option linter.unusedSimpArgs false

/-- ordinates times distances: the first k. -/
def momL (xs ys : List Int) (about : Int) (k : Nat) : List Int := (List.range k).map fun j => ix ys j * (ix xs j - about)
theorem momL_length (xs ys : List Int) (about : Int) (k : Nat) : (momL xs ys about k).length = k := by simp [momL]
theorem momL_succ (xs ys : List Int) (about : Int) (k : Nat) : momL xs ys about (k + 1) = momL xs ys about k ++ [ix ys k * (ix xs k - about)] := by simp [momL, List.range_succ]
theorem momL_ix (xs ys : List Int) (about : Int) (k j : Nat) (h : j < k) : ix (momL xs ys about k) j = ix ys j * (ix xs j - about) := by
  simp [ix, momL, List.getD, h]

set_option maxHeartbeats 1000000 in
theorem moment_any (xs ys : List Int) (A : Option Addr) (c : Nat) (A2 : Option Addr) (c2 : Nat) (about : Int) (hP : OkP 9 100000 xs) (hc : xs.length ≤ c) (hm : c ≤ 9223372036854775807) (w : World) (h : RD w w.heap.size A (ints xs))
    (hl : ys.length = xs.length) (hc2 : ys.length ≤ c2) (hy : ∀ j, -20000 ≤ ix ys j ∧ ix ys j ≤ 20000) (h2 : RD w w.heap.size A2 (ints ys)) (ab0 : 0 ≤ about) (ab1 : about ≤ 100000) :
    Calls Try.prog 66 #[.slice A xs.length c, .slice A2 ys.length c2, .int .i64 about] w fun e w' => e = .returned (.int .i64 (dotK (weightsZ xs) (momL xs ys about xs.length) xs.length)) ∧ Below w.heap.size w w' := by
  have HL := Lib.hid hl
  have hn9 := hP.many
  have hn2 := hP.two
  have hy9 : ys.length ≤ 9 := by omega
  have HY := Lib.hid hy
  have hpb : ∀ k, k < xs.length → -2000000000 ≤ ix ys k * (ix xs k - about) ∧ ix ys k * (ix xs k - about) ≤ 2000000000 := fun k hk => by
    have a := hP.lo k hk
    have b := hP.hi' k hk
    have := mulbd (M := 20000) (N := 100000) (hy k) (show -100000 ≤ ix xs k - about ∧ ix xs k - about ≤ 100000 by omega) (by omega) (by omega)
    omega
  have HPB := Lib.hid hpb
  have hlx : ∀ k, k < xs.length → 0 ≤ ix xs k ∧ ix xs k ≤ 100000 := fun k hk => ⟨hP.lo k hk, hP.hi' k hk⟩
  have HLX := Lib.hid hlx
  have H1 := Lib.hid h
  have H2 := Lib.hid h2
  clear hl hy hpb hlx h h2
  go_enter Try.func66, Try.ntmps66
  go_wp2
  go_loopw [7, 12] (fun v x wr => ∃ k : Nat, k ≤ ys.length ∧ x = .int .i64 k ∧ OwnI wr w.heap.size v (momL xs ys about k) ∧ Below w.heap.size w wr) (fun _ x _ => ys.length - (intOf x).toNat)
  case atStart => exact ⟨0, by omega, rfl, OwnI.nil _ _, Below.refl _ _⟩
  case round =>
    obtain ⟨k, hk, rfl, hown, hbl⟩ := hrel
    by_cases hk' : k < ys.length
    · have hkx : k < xs.length := by have := HL.out; omega
      obtain ⟨b2, off2, rfl, hb2, hcell2⟩ := H2.out.ints (by omega)
      obtain ⟨b1, off1, rfl, hb1, hcell1⟩ := H1.out.ints (by omega)
      have y0 := (hbl.cell (p := ⟨b1, off1 + k, none⟩) hb1).trans (hcell1 k hkx)
      have y1 := (hbl.cell (p := ⟨b2, off2 + k, none⟩) hb2).trans (hcell2 k hk')
      obtain ⟨p0, p1⟩ := HPB.out k hkx
      obtain ⟨q0, q1⟩ := HLX.out k hkx
      have hs := hbl.size
      have HO := Lib.hid hown
      have HB := Lib.hid hbl
      have hml : (momL xs ys about k).length ≤ 1000000 := by rw [momL_length]; omega
      clear hcell2 hcell1 hown hbl
      go_wp2_with (at_builtin; refine wpList_app1 rfl _ _ rfl w.heap.size _ _ rfl (HO.out.kept (by repeat' (first | (with_reducible exact Below.refl _ _) | (with_reducible assumption) | (refine below_step (by assumption) ?_ ?_) | (with_reducible refine below_drewN ?_ _) | (with_reducible refine Below.drew ?_) | (with_reducible refine Below.alloc ?_ ?_ _) | (with_reducible refine Below.setCell ?_ ?_ _) | go_size)) (Nat.le_refl _)) wr.heap.size 1 _ rfl (cell_new1 _ _ _) hml (by simp; omega) ?_; intro v' w1 hown' hgrow; replace hgrow := app_below HB.out HO.out hgrow)
      exact ⟨⟨k + 1, by omega, by go_num, by rw [momL_succ]; exact hown', hgrow⟩, by simp [intOf]; omega⟩
    · obtain ⟨A3, c3, rfl, hc3, hm3, hrd, hbase, _⟩ := hown.form
      have ek : k = xs.length := by have := HL.out; omega
      subst ek
      have hy2 : ∀ j, -2000000000 ≤ ix (momL xs ys about xs.length) j ∧ ix (momL xs ys about xs.length) j ≤ 2000000000 := fun j => by
        by_cases hj : j < xs.length
        · rw [momL_ix _ _ _ _ _ hj]; exact HPB.out j hj
        · rw [ix_out (by rw [momL_length]; omega)]; omega
      have har := area_any xs (momL xs ys about xs.length) A c A3 c3 hP hc hm wr ((H1.out.keep hbl (Nat.le_refl _)).more hbl.size) (momL_length _ _ _ _) hc3 hy2 hrd
      have HA := Lib.hid har
      have HB := Lib.hid hbl
      clear har hy2 hrd hown hbase hbl
      go_wp2_with (go_at_call 65; (with_reducible refine HA.out.mono ?_); rintro e w1 ⟨rfl, hb1⟩)
      go_ret
      exact ⟨rfl, below_step hb1 HB.out HB.out.size⟩

end Go.Proofs.Ytdlmdaononclgaa
