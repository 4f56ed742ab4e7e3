import Derived.Test.YtdlmdaononclgaaPartW
import Derived.Test.YtdlmdaononclgaaMB
import Derived.Deep.Cut
import Derived.Deep.CutRange
import Derived.Outline
/- The program's Part. -/
namespace Go.Proofs.Ytdlmdaononclgaa
open Go.RowKit
set_option linter.unusedVariables false
set_option linter.unusedSimpArgs false

/-- two lists of the call's own, and an error. -/
def RetP2 (p1 p2 : List Int) (e0 : Int) (w : World) (e : Ending) (w' : World) : Prop := ∃ v1 v2, e = .returned (.tuple #[v1, v2, .int .i64 e0]) ∧ OwnI w' w.heap.size v1 p1 ∧ OwnI w' w.heap.size v2 p2 ∧ Below w.heap.size w w'

theorem Part_e12 {xs : List Int} (hp : okP 9 100000 xs = false) (at' : Int) (A : Option Addr) (c : Nat) (hc : xs.length ≤ c) (hm : c ≤ 9223372036854775807) (w : World) (h : RD w w.heap.size A (ints xs)) :
    Calls Try.prog 54 #[.slice A xs.length c, .int .i64 at'] w (RetP2 [] [] 12 w) := by
  go_enter Try.func54, Try.ntmps54
  go_wp2_with (first | (go_at_call 31; (with_reducible refine (CheckPlaces_no hp A c _ hc hm h).mono ?_); rintro e w' ⟨rfl, rfl⟩))
  go_ret3
  exact ⟨_, _, rfl, OwnI.nil _ _, OwnI.nil _ _, Below.refl _ _⟩

set_option maxHeartbeats 1000000 in
theorem Part_out {xs : List Int} (hp : okP 9 100000 xs = true) {at' : Int} (ho : within at' 1 ((xs.length : Int) - 2) = false) (A : Option Addr) (c : Nat) (hc : xs.length ≤ c) (hm : c ≤ 9223372036854775807) (w : World) (h : RD w w.heap.size A (ints xs)) :
    Calls Try.prog 54 #[.slice A xs.length c, .int .i64 at'] w (RetP2 [] [] 14 w) := by
  have h2 := (okP_true hp).two
  have HI : Hid (∀ W, Calls Try.prog 71 #[.int .i64 at', .int .i64 1, .int .i64 ((xs.length : Int) - 2)] W fun e w' => e = .returned (.bool false) ∧ W = w') := Lib.hid (fun W => ho ▸ isWithin_any _ _ _ W)
  have w2 : IntKind.i64.wrap ((xs.length : Int) - 2) = (xs.length : Int) - 2 := IntWalk.i64_in _ ⟨by omega, by omega⟩
  clear ho
  go_enter Try.func54, Try.ntmps54
  go_wp2_with (first | (go_at_call 31; (with_reducible refine (CheckPlaces_yes hp A c _ hc hm h).mono ?_); rintro e w' ⟨rfl, rfl⟩))
  refine region_kept (by kernel_rfl) (by kernel_rfl) ?_
  repeat (go_big_quiet_step ((first | (go_at_call 71; exact kept_same (HI.out _)))))
  refine wpQuiet_nil ?_
  rintro W5 ⟨kk, hkk⟩
  have B5 : Below w.heap.size w W5 := hkk ▸ kk.ok
  clear hkk kk
  go_wp2
  go_ret3
  exact ⟨_, _, rfl, OwnI.nil _ _, OwnI.nil _ _, B5⟩

set_option maxHeartbeats 2000000 in
theorem Part_in {xs : List Int} {r : Bool} {k n : Nat} (hp : okP 9 100000 xs = true) (hn : xs.length = n) (hk1 : 1 ≤ k) (hk2 : k + 2 ≤ n) (hr : agreeB (xs.take (k + 1)) (xs.drop k) xs = r) (A : Option Addr) (c : Nat) (hc : n ≤ c) (hm : c ≤ 9223372036854775807) (w : World) (h : RD w w.heap.size A (ints xs)) :
    Calls Try.prog 54 #[.slice A n c, .int .i64 k] w (RetP2 (if r = true then xs.take (k + 1) else []) (if r = true then xs.drop k else []) (if r = true then 0 else 14) w) := by
  have hP := okP_true hp
  have n9 : n ≤ 9 := by have := hP.many; omega
  have hl1 : (xs.take (k + 1)).length = k + 1 := by rw [List.length_take]; omega
  have hl2 : (xs.drop k).length = n - k := by rw [List.length_drop, hn]
  have ho : within (k : Int) 1 ((n : Int) - 2) = true := by simp only [within, Bool.and_eq_true, decide_eq_true_eq]; omega
  have HI : Hid (∀ W, Calls Try.prog 71 #[.int .i64 k, .int .i64 1, .int .i64 ((n : Int) - 2)] W fun e w' => e = .returned (.bool true) ∧ W = w') := Lib.hid (fun W => ho ▸ isWithin_any _ _ _ W)
  have HCP : Hid (∀ W, Below w.heap.size w W → Calls Try.prog 31 #[.slice A n c] W fun e w' => e = .returned (.int .i64 0) ∧ W = w') := Lib.hid (fun W hb => hn ▸ CheckPlaces_yes hp A c W (hn ▸ hc) hm (h.keep hb (Nat.le_refl _)))
  have hrd := h
  obtain ⟨b, off, rfl, hb, hcell⟩ := h.ints (by omega)
  rw [hn] at hcell
  have r1 : RD w w.heap.size (some ⟨b, off, none⟩) (ints (xs.take (k + 1))) := .inr ⟨b, off, rfl, hb, fun j v hv => by
    rw [ints_get] at hv
    have hj : j < k + 1 := by
      refine Decidable.byContradiction fun hn => ?_
      rw [List.getElem?_eq_none (by omega)] at hv
      simp at hv
    rw [hcell j (by omega), ← ix_take hj]
    rw [List.getElem?_eq_getElem (by omega)] at hv
    rw [← Option.some.inj hv]
    simp [ix, List.getD, List.getElem?_eq_getElem (show j < (xs.take (k + 1)).length by omega)]⟩
  have r2 : RD w w.heap.size (some ⟨b, off + k, none⟩) (ints (xs.drop k)) := .inr ⟨b, off + k, rfl, hb, fun j v hv => by
    rw [ints_get] at hv
    have hj : j < n - k := by
      refine Decidable.byContradiction fun hn => ?_
      rw [List.getElem?_eq_none (by omega)] at hv
      simp at hv
    rw [Nat.add_assoc, hcell (k + j) (by omega), ← ix_drop]
    rw [List.getElem?_eq_getElem (by omega)] at hv
    rw [← Option.some.inj hv]
    simp [ix, List.getD, List.getElem?_eq_getElem (show j < (xs.drop k).length by omega)]⟩
  have HA : Hid (∀ W, Below w.heap.size w W → Calls Try.prog 91 #[.slice (some ⟨b, off, none⟩) (k + 1) c, .slice (some ⟨b, off + k, none⟩) (n - k) (c - k), .slice (some ⟨b, off, none⟩) n c] W fun e w' => e = .returned (.bool r) ∧ Below W.heap.size W w') := Lib.hid (fun W hB => areParts_is hr (ok_take hP hk1 (by omega)) (ok_drop hP (by omega)) hP hl1 hl2 hn _ c _ (c - k) _ c (by omega) hm (by omega) (by omega) hc hm W ((r1.keep hB (Nat.le_refl _)).more hB.size) ((r2.keep hB (Nat.le_refl _)).more hB.size) ((hrd.keep hB (Nat.le_refl _)).more hB.size))
  have CL1 : Hid (∀ W, Below w.heap.size w W → Calls Try.prog 92 #[.slice (some ⟨b, off, none⟩) (k + 1) c] W (RetI (xs.take (k + 1)) W)) := Lib.hid (fun W hB => Clone_any _ b off _ c hl1 (by omega) W (fun j hj => by rw [ix_take hj]; exact cell_later hB (hcell j (by omega))) (by have := hB.size; omega))
  have CL2 : Hid (∀ W, Below w.heap.size w W → Calls Try.prog 92 #[.slice (some ⟨b, off + k, none⟩) (n - k) (c - k)] W (RetI (xs.drop k) W)) := Lib.hid (fun W hB => Clone_any _ b (off + k) _ (c - k) hl2 (by omega) W (fun j hj => by rw [ix_drop, Nat.add_assoc]; exact cell_later hB (hcell (k + j) (by omega))) (by have := hB.size; omega))
  have w1 : IntKind.i64.wrap ((k : Int) + 1) = (k : Int) + 1 := IntWalk.i64_in _ ⟨by omega, by omega⟩
  have w2 : IntKind.i64.wrap ((n : Int) - 2) = (n : Int) - 2 := IntWalk.i64_in _ ⟨by omega, by omega⟩
  have w3 : ((k : Int) + 1).toNat = k + 1 := by omega
  have w4 : (0 : Int) ≤ (k : Int) + 1 := by omega
  have w5 : (k : Int) + 1 ≤ (c : Int) := by omega
  have w6 : (k : Int) ≤ (n : Int) := by omega
  have w7 : k ≤ n := by omega
  have w8 : k + 1 ≤ c := by omega
  clear ho hp hrd h hcell r1 r2 hl1 hl2 hn hr
  cases r
  · show Calls Try.prog 54 #[.slice (some ⟨b, off, none⟩) n c, .int .i64 k] w (RetP2 [] [] 14 w)
    go_enter Try.func54, Try.ntmps54
    go_wp2_with (first | (go_at_call 31; (with_reducible refine (HCP.out _ (Below.refl _ _)).mono ?_); rintro e w' ⟨rfl, rfl⟩))
    refine region_kept (by kernel_rfl) (by kernel_rfl) ?_
    repeat (go_big_quiet_step ((first | (go_at_call 71; exact kept_same (HI.out _)) | (go_at_call 91; exact kept_call (HA.out _ (Kd.ok _))))))
    refine wpQuiet_nil ?_
    rintro W5 ⟨kk, hkk⟩
    have B5 : Below w.heap.size w W5 := hkk ▸ kk.ok
    clear hkk kk
    go_wp2
    go_ret3
    exact ⟨_, _, rfl, OwnI.nil _ _, OwnI.nil _ _, B5⟩
  · show Calls Try.prog 54 #[.slice (some ⟨b, off, none⟩) n c, .int .i64 k] w (RetP2 (xs.take (k + 1)) (xs.drop k) 0 w)
    go_enter Try.func54, Try.ntmps54
    go_wp2_with (first | (go_at_call 31; (with_reducible refine (HCP.out _ (Below.refl _ _)).mono ?_); rintro e w' ⟨rfl, rfl⟩))
    refine region_kept (by kernel_rfl) (by kernel_rfl) ?_
    repeat (go_big_quiet_step ((first | (go_at_call 71; exact kept_same (HI.out _)) | (go_at_call 91; exact kept_call (HA.out _ (Kd.ok _))))))
    refine wpQuiet_nil ?_
    rintro W5 ⟨kk, hkk⟩
    have B5 : Below w.heap.size w W5 := hkk ▸ kk.ok
    clear hkk kk
    go_upto_region 6 with fail
    have K1 : Hid (Calls Try.prog 92 #[.slice (some ⟨b, off, none⟩) (k + 1) c] W5.drew (RetI (xs.take (k + 1)) W5.drew)) := Lib.hid (CL1.out _ (below_drewN B5 1))
    have K2 : Hid (∀ V, Below W5.drew.heap.size W5.drew V → Calls Try.prog 92 #[.slice (some ⟨b, off + k, none⟩) (n - k) (c - k)] V (RetI (xs.drop k) V)) := Lib.hid (fun V hV => CL2.out _ (below_step hV (below_drewN B5 1) B5.size))
    go_region_held3 (fun _ => True) (exact trivial) (first | (go_at_call 92; (with_reducible refine K1.out.mono ?_); rintro e V1 ⟨v1, rfl, ho1, hb1⟩) | (go_at_call 92; (with_reducible refine (K2.out _ hb1).mono ?_); rintro e V2 ⟨v2, rfl, ho2, hb2⟩))
    have hz5 : w.heap.size ≤ W5.heap.size := B5.size
    have hz6 : W5.heap.size ≤ V1.heap.size := hb1.size
    have H1 := Lib.hid ((ho1.kept hb2 (Nat.le_refl _)).less hz5)
    have H2 := Lib.hid (ho2.less (Nat.le_trans hz5 hz6))
    have H3 := Lib.hid (below_step (below_step hb2 hb1 hz6) (below_drewN B5 1) hz5)
    clear ho1 ho2 hb1 hb2 K1 K2
    go_wp2
    go_ret3
    exact ⟨_, _, rfl, H1.out, H2.out, H3.out⟩

/-- what Part answers. -/
def partE (xs : List Int) (a : Int) : Int := if okP 9 100000 xs = true then (if within a 1 ((xs.length : Int) - 2) = true ∧ agreeB (xs.take (a.toNat + 1)) (xs.drop a.toNat) xs = true then 0 else 14) else 12
def partA (xs : List Int) (a : Int) : List Int := if partE xs a = 0 then xs.take (a.toNat + 1) else []
def partB (xs : List Int) (a : Int) : List Int := if partE xs a = 0 then xs.drop a.toNat else []
theorem Part_any (xs : List Int) (a : Int) (A : Option Addr) (c : Nat) (hc : xs.length ≤ c) (hm : c ≤ 9223372036854775807) (w : World) (h : RD w w.heap.size A (ints xs)) :
    Calls Try.prog 54 #[.slice A xs.length c, .int .i64 a] w (RetP2 (partA xs a) (partB xs a) (partE xs a) w) := by
  unfold partA partB
  cases hp : okP 9 100000 xs with
  | false =>
    have e : partE xs a = 12 := by unfold partE; rw [if_neg (by rw [hp]; simp)]
    rw [e]; exact Part_e12 hp a A c hc hm w h
  | true =>
    cases hw : within a 1 ((xs.length : Int) - 2) with
    | false =>
      have e : partE xs a = 14 := by unfold partE; rw [if_pos hp, if_neg (by rw [hw]; simp)]
      rw [e]; exact Part_out hp hw A c hc hm w h
    | true =>
      have h2 := hw
      simp only [within, Bool.and_eq_true, decide_eq_true_eq] at h2
      obtain ⟨k, rfl⟩ := Int.eq_ofNat_of_zero_le (show 0 ≤ a by omega)
      have hin := Part_in (r := agreeB (xs.take (k + 1)) (xs.drop k) xs) hp rfl (k := k) (by omega) (by omega) rfl A c hc hm w h
      cases hr : agreeB (xs.take (k + 1)) (xs.drop k) xs with
      | false =>
        have e : partE xs (k : Int) = 14 := by unfold partE; rw [if_pos hp, if_neg (by rw [Int.toNat_natCast, hr]; simp)]
        rw [e]; rw [hr] at hin; exact hin
      | true =>
        have e : partE xs (k : Int) = 0 := by unfold partE; rw [if_pos hp, if_pos ⟨hw, by rw [Int.toNat_natCast]; exact hr⟩]
        rw [e]; rw [hr] at hin; exact hin

end Go.Proofs.Ytdlmdaononclgaa
