import Derived.Test.YtdlmdaononclgaaRefA
import Derived.Test.YtdlmdaononclgaaMC
/- The reference: Centre, Weights, Groups, SameGroups. -/
namespace Go.Proofs.Ytdlmdaononclgaa
open Go.RowKit
set_option linter.unusedVariables false
set_option linter.unusedSimpArgs false

section
variable (xs ys : List Int) (A : Option Addr) (c : Nat) (A2 : Option Addr) (c2 : Nat) (hc : xs.length ≤ c) (hm : c ≤ 9223372036854775807) (hc2 : ys.length ≤ c2) (hm2 : c2 ≤ 9223372036854775807)
include hc hm hc2 hm2

set_option maxHeartbeats 2000000 in
theorem refCentre_any (w : World) (h : RD w w.heap.size A (ints xs)) (h2 : RD w w.heap.size A2 (ints ys)) : Calls Try.prog 26 #[.slice A xs.length c, .slice A2 ys.length c2] w fun e w' => e = .returned (.tuple #[.agg #[.int .i64 (cenR xs ys).1, .int .i64 (cenR xs ys).2.1], .int .i64 (cenR xs ys).2.2]) ∧ Below w.heap.size w w' := by
  have hk : ∀ W, Below w.heap.size w W → RD W w.heap.size A (ints xs) ∧ RD W w.heap.size A2 (ints ys) := fun W hb => ⟨h.keep hb (Nat.le_refl _), h2.keep hb (Nat.le_refl _)⟩
  have HK := Lib.hid hk
  clear hk h h2
  rcases ordE_cases xs ys with he | he | he
  · obtain ⟨hP, hl, hy⟩ := ordE_zero he
    by_cases hz : dotK (weightsZ xs) ys xs.length = 0
    · have hr : areaR xs ys = (0, 0) := by simp [areaR, he, hz]
      have HR : Hid (cenR xs ys = (0, 0, 3)) := by show _ = _; simp [cenR, he, hz]
      have HQ := Lib.hid hr
      clear hr he hy hl hz
      go_enter Try.func26, Try.ntmps26
      go_wp2_with (first | (go_at_call 23; refine (refArea_is xs ys A c A2 c2 hc hm hc2 hm2 HQ.out _ (by simp) (HK.out _ (by repeat' (first | (with_reducible exact Below.refl _ _) | (with_reducible assumption) | (refine below_step (by assumption) ?_ ?_) | (with_reducible refine below_drewN ?_ _) | (with_reducible refine Below.drew ?_) | (with_reducible refine Below.alloc ?_ ?_ _) | (with_reducible refine Below.setCell ?_ ?_ _) | go_size))).1 (HK.out _ (by repeat' (first | (with_reducible exact Below.refl _ _) | (with_reducible assumption) | (refine below_step (by assumption) ?_ ?_) | (with_reducible refine below_drewN ?_ _) | (with_reducible refine Below.drew ?_) | (with_reducible refine Below.alloc ?_ ?_ _) | (with_reducible refine Below.setCell ?_ ?_ _) | go_size))).2).mono ?_; rintro e w1 ⟨rfl, hb1⟩; obtain ⟨hc1, hf1⟩ := bcell hb1; have hz1 := hb1.size; simp only [World.size_alloc] at hz1; have z0 : w.heap.size < w1.heap.size := (by omega)))
      refine bodyPost_ret (by simp [results, Try.results26, go_sem, *]; try rfl) rfl ⟨?_, ?_⟩
      · rw [HR.out]
      · repeat' (first | (with_reducible exact Below.refl _ _) | (with_reducible assumption) | (refine below_step (by assumption) ?_ ?_) | (with_reducible refine below_drewN ?_ _) | (with_reducible refine Below.drew ?_) | (with_reducible refine Below.alloc ?_ ?_ _) | (with_reducible refine Below.setCell ?_ ?_ _) | go_size)
    · obtain ⟨a, ha⟩ : ∃ a, dotK (weightsZ xs) ys xs.length = a := ⟨_, rfl⟩
      obtain ⟨b0, b1⟩ := area_bd he
      obtain ⟨m0, m1⟩ := mom_bd (about := 0) he (by omega) (by omega)
      rw [ha] at b0 b1 hz
      have hr : areaR xs ys = (a, 0) := by simp [areaR, he, ha]
      have HR : Hid (cenR xs ys = mkR (dotK (weightsZ xs) (momL xs ys 0 xs.length) xs.length) a) := by show _ = _; simp [cenR, he, ha, hz]
      have HQ := Lib.hid hr
      have hw0 : within 0 0 100000 = true := by decide
      have hmr : momR xs ys 0 = (dotK (weightsZ xs) (momL xs ys 0 xs.length) xs.length, 0) := by simp only [momR, he, hw0, if_true]
      have hmo : ∀ W, Below w.heap.size w W → Calls Try.prog 25 #[.slice A xs.length c, .slice A2 ys.length c2, .int .i64 0] W fun e w' => e = .returned (.tuple #[.int .i64 (dotK (weightsZ xs) (momL xs ys 0 xs.length) xs.length), .int .i64 0]) ∧ Below W.heap.size W w' := fun W hb => by
        have := refMoment_any xs ys A c A2 c2 hc hm hc2 hm2 0 W ((HK.out W hb).1.more hb.size) ((HK.out W hb).2.more hb.size)
        rw [hmr] at this
        exact this
      have HM := Lib.hid hmo
      have ez : (a == 0) = false := by simpa using hz
      have HZ := Lib.hid hz
      clear hr he hy hl hmo ha hz hmr hw0
      go_enter Try.func26, Try.ntmps26
      go_wp2_with (first | (go_at_call 23; refine (refArea_is xs ys A c A2 c2 hc hm hc2 hm2 HQ.out _ (by simp) (HK.out _ (by repeat' (first | (with_reducible exact Below.refl _ _) | (with_reducible assumption) | (refine below_step (by assumption) ?_ ?_) | (with_reducible refine below_drewN ?_ _) | (with_reducible refine Below.drew ?_) | (with_reducible refine Below.alloc ?_ ?_ _) | (with_reducible refine Below.setCell ?_ ?_ _) | go_size))).1 (HK.out _ (by repeat' (first | (with_reducible exact Below.refl _ _) | (with_reducible assumption) | (refine below_step (by assumption) ?_ ?_) | (with_reducible refine below_drewN ?_ _) | (with_reducible refine Below.drew ?_) | (with_reducible refine Below.alloc ?_ ?_ _) | (with_reducible refine Below.setCell ?_ ?_ _) | go_size))).2).mono ?_; rintro e w1 ⟨rfl, hb1⟩; obtain ⟨hc1, hf1⟩ := bcell hb1; have hz1 := hb1.size; simp only [World.size_alloc] at hz1; have z0 : w.heap.size < w1.heap.size := (by omega)) | (go_at_call 25; refine (HM.out _ (by repeat' (first | (with_reducible exact Below.refl _ _) | (with_reducible assumption) | (refine below_step (by assumption) ?_ ?_) | (with_reducible refine below_drewN ?_ _) | (with_reducible refine Below.drew ?_) | (with_reducible refine Below.alloc ?_ ?_ _) | (with_reducible refine Below.setCell ?_ ?_ _) | go_size))).mono ?_; rintro e w2 ⟨rfl, hb2⟩; obtain ⟨hc2', hf2'⟩ := bcell hb2; have hz2 := hb2.size; have z1 : w.heap.size < w2.heap.size := (by omega)) | (go_at_call 35; refine (refmake_any _ _ (by omega) (by omega) (by omega) (by omega) _).mono ?_; rintro e w3 ⟨rfl, hb3⟩; obtain ⟨hc3', hf3'⟩ := bcell hb3; have hz3 := hb3.size; have z2 : w.heap.size < w3.heap.size := (by omega)))
      refine bodyPost_ret (by simp [results, Try.results26, go_sem, *]; try rfl) rfl ⟨?_, ?_⟩
      · rw [HR.out]
      · repeat' (first | (with_reducible exact Below.refl _ _) | (with_reducible assumption) | (refine below_step (by assumption) ?_ ?_) | (with_reducible refine below_drewN ?_ _) | (with_reducible refine Below.drew ?_) | (with_reducible refine Below.alloc ?_ ?_ _) | (with_reducible refine Below.setCell ?_ ?_ _) | go_size)
  · have hr : areaR xs ys = (0, 1) := by simp [areaR, he]
    have HR : Hid (cenR xs ys = (0, 0, 1)) := by show _ = _; simp [cenR, he]
    have HQ := Lib.hid hr
    clear hr he
    go_enter Try.func26, Try.ntmps26
    go_wp2_with (first | (go_at_call 23; refine (refArea_is xs ys A c A2 c2 hc hm hc2 hm2 HQ.out _ (by simp) (HK.out _ (by repeat' (first | (with_reducible exact Below.refl _ _) | (with_reducible assumption) | (refine below_step (by assumption) ?_ ?_) | (with_reducible refine below_drewN ?_ _) | (with_reducible refine Below.drew ?_) | (with_reducible refine Below.alloc ?_ ?_ _) | (with_reducible refine Below.setCell ?_ ?_ _) | go_size))).1 (HK.out _ (by repeat' (first | (with_reducible exact Below.refl _ _) | (with_reducible assumption) | (refine below_step (by assumption) ?_ ?_) | (with_reducible refine below_drewN ?_ _) | (with_reducible refine Below.drew ?_) | (with_reducible refine Below.alloc ?_ ?_ _) | (with_reducible refine Below.setCell ?_ ?_ _) | go_size))).2).mono ?_; rintro e w1 ⟨rfl, hb1⟩; obtain ⟨hc1, hf1⟩ := bcell hb1; have hz1 := hb1.size; simp only [World.size_alloc] at hz1; have z0 : w.heap.size < w1.heap.size := (by omega)))
    refine bodyPost_ret (by simp [results, Try.results26, go_sem, *]; try rfl) rfl ⟨?_, ?_⟩
    · rw [HR.out]
    · repeat' (first | (with_reducible exact Below.refl _ _) | (with_reducible assumption) | (refine below_step (by assumption) ?_ ?_) | (with_reducible refine below_drewN ?_ _) | (with_reducible refine Below.drew ?_) | (with_reducible refine Below.alloc ?_ ?_ _) | (with_reducible refine Below.setCell ?_ ?_ _) | go_size)
  · have hr : areaR xs ys = (0, 12) := by simp [areaR, he]
    have HR : Hid (cenR xs ys = (0, 0, 12)) := by show _ = _; simp [cenR, he]
    have HQ := Lib.hid hr
    clear hr he
    go_enter Try.func26, Try.ntmps26
    go_wp2_with (first | (go_at_call 23; refine (refArea_is xs ys A c A2 c2 hc hm hc2 hm2 HQ.out _ (by simp) (HK.out _ (by repeat' (first | (with_reducible exact Below.refl _ _) | (with_reducible assumption) | (refine below_step (by assumption) ?_ ?_) | (with_reducible refine below_drewN ?_ _) | (with_reducible refine Below.drew ?_) | (with_reducible refine Below.alloc ?_ ?_ _) | (with_reducible refine Below.setCell ?_ ?_ _) | go_size))).1 (HK.out _ (by repeat' (first | (with_reducible exact Below.refl _ _) | (with_reducible assumption) | (refine below_step (by assumption) ?_ ?_) | (with_reducible refine below_drewN ?_ _) | (with_reducible refine Below.drew ?_) | (with_reducible refine Below.alloc ?_ ?_ _) | (with_reducible refine Below.setCell ?_ ?_ _) | go_size))).2).mono ?_; rintro e w1 ⟨rfl, hb1⟩; obtain ⟨hc1, hf1⟩ := bcell hb1; have hz1 := hb1.size; simp only [World.size_alloc] at hz1; have z0 : w.heap.size < w1.heap.size := (by omega)))
    refine bodyPost_ret (by simp [results, Try.results26, go_sem, *]; try rfl) rfl ⟨?_, ?_⟩
    · rw [HR.out]
    · repeat' (first | (with_reducible exact Below.refl _ _) | (with_reducible assumption) | (refine below_step (by assumption) ?_ ?_) | (with_reducible refine below_drewN ?_ _) | (with_reducible refine Below.drew ?_) | (with_reducible refine Below.alloc ?_ ?_ _) | (with_reducible refine Below.setCell ?_ ?_ _) | go_size)
end

set_option maxHeartbeats 1000000 in
theorem refWeights_yes {xs : List Int} (hp : okP 9 100000 xs = true) (A : Option Addr) (c : Nat) (hc : xs.length ≤ c) (hm : c ≤ 9223372036854775807) (w : World) (h : RD w w.heap.size A (ints xs)) :
    Calls Try.prog 29 #[.slice A xs.length c] w fun e w' => ∃ g, e = .returned (.tuple #[.slice (some ⟨g, 0, none⟩) (weightsZ xs).length (weightsZ xs).length, .int .i64 0]) ∧ w.heap.size ≤ g ∧ Arr w' g (weightsZ xs) ∧ Below w.heap.size w w' := by
  have H := Lib.hid h
  clear h
  go_enter Try.func29, Try.ntmps29
  go_wp2_with (go_at_call 32; (with_reducible refine (refCheckPlaces_yes hp A c _ hc hm H.out).mono ?_); rintro e w' ⟨rfl, k0, rfl⟩)
  refine (refweights_any xs A c (okP_true hp) hc hm (w.drewN k0) (H.out.keep (Below.drewN' (Below.refl _ _) k0) (Nat.le_refl _))).mono ?_
  rintro e w1 ⟨g, rfl, hg, har, hb1⟩
  go_wp2
  go_ret2
  exact ⟨g, rfl, hg, har, below_step hb1 (Below.drewN' (Below.refl _ _) k0) (Nat.le_refl _)⟩
theorem refWeights_no {xs : List Int} (hp : okP 9 100000 xs = false) (A : Option Addr) (c : Nat) (hc : xs.length ≤ c) (hm : c ≤ 9223372036854775807) (w : World) (h : RD w w.heap.size A (ints xs)) :
    Calls Try.prog 29 #[.slice A xs.length c] w fun e w' => e = .returned (.tuple #[.slice none 0 0, .int .i64 12]) ∧ ∃ k, w' = w.drewN k := by
  go_enter Try.func29, Try.ntmps29
  go_wp2_with (go_at_call 32; (with_reducible refine (refCheckPlaces_no hp A c _ hc hm h).mono ?_); rintro e w' ⟨rfl, k0, rfl⟩)
  go_ret2
  exact ⟨rfl, k0, rfl⟩
set_option maxHeartbeats 1000000 in
theorem refGroups_yes {xs : List Int} (hp : okP 9 100000 xs = true) (A : Option Addr) (c : Nat) (hc : xs.length ≤ c) (hm : c ≤ 9223372036854775807) (w : World) (h : RD w w.heap.size A (ints xs)) :
    Calls Try.prog 28 #[.slice A xs.length c] w fun e w' => ∃ v, e = .returned (.tuple #[v, .int .i64 0]) ∧ OwnG w' w.heap.size v (groupsZ xs) ∧ Below w.heap.size w w' := by
  have H := Lib.hid h
  clear h
  go_enter Try.func28, Try.ntmps28
  go_wp2_with (go_at_call 32; (with_reducible refine (refCheckPlaces_yes hp A c _ hc hm H.out).mono ?_); rintro e w' ⟨rfl, k0, rfl⟩)
  refine (refgroups_any xs A c (okP_true hp) hc hm (w.drewN k0) (H.out.keep (Below.drewN' (Below.refl _ _) k0) (Nat.le_refl _))).mono ?_
  rintro e w1 ⟨v, rfl, hown, hb1⟩
  go_wp2
  go_ret2
  exact ⟨v, rfl, hown, below_step hb1 (Below.drewN' (Below.refl _ _) k0) (Nat.le_refl _)⟩
theorem refGroups_no {xs : List Int} (hp : okP 9 100000 xs = false) (A : Option Addr) (c : Nat) (hc : xs.length ≤ c) (hm : c ≤ 9223372036854775807) (w : World) (h : RD w w.heap.size A (ints xs)) :
    Calls Try.prog 28 #[.slice A xs.length c] w fun e w' => e = .returned (.tuple #[.slice none 0 0, .int .i64 12]) ∧ ∃ k, w' = w.drewN k := by
  go_enter Try.func28, Try.ntmps28
  go_wp2_with (go_at_call 32; (with_reducible refine (refCheckPlaces_no hp A c _ hc hm h).mono ?_); rintro e w' ⟨rfl, k0, rfl⟩)
  go_ret2
  exact ⟨rfl, k0, rfl⟩

/-- are groups the same, the second ones moved? -/
def sameG (gs bs : List (Int × Int)) (d : Int) : Bool := decide (gs = bs.map fun p => (p.1 + d, p.2))
theorem gx_ext {gs bs : List (Int × Int)} (hl : gs.length = bs.length) (h : ∀ j, j < gs.length → gx gs j = gx bs j) : gs = bs := by
  apply List.ext_getElem hl
  intro j h1 h2
  have := h j h1
  simpa [gx, List.getD, List.getElem?_eq_getElem h1, List.getElem?_eq_getElem h2] using this
theorem gx_map {f : Int × Int → Int × Int} {gs : List (Int × Int)} {j : Nat} (h : j < gs.length) : gx (gs.map f) j = f (gx gs j) := by
  simp [gx, List.getD, List.getElem?_eq_getElem h]

set_option maxHeartbeats 2000000 in
theorem SameGroups_any (gs bs : List (Int × Int)) (d : Int) (A : Option Addr) (c : Nat) (A2 : Option Addr) (c2 : Nat) (hc : gs.length ≤ c) (hm : c ≤ 9223372036854775807) (hc2 : bs.length ≤ c2) (hm2 : c2 ≤ 9223372036854775807)
    (d0 : 0 ≤ d) (d1 : d ≤ 1000) (hbd : ∀ j, j < bs.length → 0 ≤ (gx bs j).1 ∧ (gx bs j).1 ≤ 1000) (w : World) {B B2 : Nat} (h : GD w B A gs) (h2 : GD w B2 A2 bs) :
    Calls Try.prog 30 #[.slice A gs.length c, .slice A2 bs.length c2, .int .i64 d] w fun e w' => e = .returned (.bool (sameG gs bs d)) ∧ ∃ k, w' = w.drewN k := by
  have H1 := Lib.hid h
  have H2 := Lib.hid h2
  have HBD := Lib.hid hbd
  clear h h2 hbd
  by_cases hl : gs.length = bs.length
  · have e1 : (((gs.length : Int) != (bs.length : Int)) = false) := ibne_false (by omega)
    have e2 : (gs.length != bs.length) = false := by simp [hl]
    have HL := Lib.hid hl
    clear hl
    go_enter Try.func30, Try.ntmps30
    go_wp2
    go_loopw [7] (fun v wr => ∃ k q : Nat, k ≤ gs.length ∧ v = .int .i64 k ∧ wr = w.drewN q ∧ ∀ j, j < k → gx gs j = ((gx bs j).1 + d, (gx bs j).2)) (fun v _ => gs.length - (intOf v).toNat)
    case atStart => exact ⟨0, 0, by omega, rfl, rfl, fun j hj => by omega⟩
    case round =>
      obtain ⟨k, q, hk, rfl, rfl, hlt⟩ := hrel
      have HLT := Lib.hid hlt; clear hlt
      by_cases hk' : k < gs.length
      · obtain ⟨b, off, rfl, hb, hcell⟩ := H1.out.at (by omega)
        obtain ⟨b2, off2, rfl, hb2, hcell2⟩ := H2.out.at (by have := HL.out; omega)
        have hky : k < bs.length := by have := HL.out; omega
        obtain ⟨y0, y1⟩ := hcell k hk'
        obtain ⟨z0, z1⟩ := hcell2 k hky
        obtain ⟨p0, p1⟩ := HBD.out k hky
        clear hcell hcell2
        by_cases he : (gx gs k).1 = (gx bs k).1 + d
        · have dd := ibne_false he
          have HE := Lib.hid he
          clear he
          by_cases hf : (gx gs k).2 = (gx bs k).2
          · have df := ibne_false hf
            have HF := Lib.hid hf
            clear hf
            go_wp2
            go_quiet (fail)
            go_wp2
            go_roundw
            case rel => exact ⟨k + 1, q + nq, by omega, by go_num, by first | rfl | rw [World.drewN_drewN], fun j hj => (by rcases (by omega : j < k ∨ j = k) with h | rfl; exact HLT.out j h; exact Prod.ext HE.out HF.out)⟩
            case measure => simp [intOf]; omega
          · have df := ibne_true hf
            have HF := Lib.hid hf
            clear hf
            go_wp2
            go_quiet (fail)
            go_wp2
            go_ret
            refine ⟨ret_bool (decide_eq_false (fun e => HF.out ?_)).symm, q + nq, by first | rfl | rw [World.drewN_drewN]⟩
            have := congrArg (fun l => (gx l k).2) e
            simpa [gx_map hky] using this
        · have dd := ibne_true he
          have HE := Lib.hid he
          clear he
          go_wp2
          go_quiet (fail)
          go_wp2
          go_ret
          refine ⟨ret_bool (decide_eq_false (fun e => HE.out ?_)).symm, q + nq, by first | rfl | rw [World.drewN_drewN]⟩
          have := congrArg (fun l => (gx l k).1) e
          simpa [gx_map hky] using this
      · go_wp2
        go_ret
        refine ⟨ret_bool (decide_eq_true (gx_ext (by rw [List.length_map]; exact HL.out) (fun j hj => ?_))).symm, q, rfl⟩
        rw [gx_map (by have := HL.out; omega)]
        exact HLT.out j (by omega)
  · have e1 : (((gs.length : Int) != (bs.length : Int)) = true) := ibne_true (by omega)
    have e2 : (gs.length != bs.length) = true := by simpa using hl
    have HL := Lib.hid hl
    clear hl
    go_enter Try.func30, Try.ntmps30
    go_wp2
    go_ret
    exact ⟨ret_bool (decide_eq_false (fun e => HL.out (by rw [e, List.length_map]))).symm, 0, rfl⟩

end Go.Proofs.Ytdlmdaononclgaa
