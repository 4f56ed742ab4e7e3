import Derived.Test.YtdlmdaononclgaaPartX
import Derived.Outline
/- The program's Join. -/
namespace Go.Proofs.Ytdlmdaononclgaa
open Go.RowKit
set_option linter.unusedVariables false
set_option linter.unusedSimpArgs false

/-- a list of the call's own, and an error. -/
def RetP1 (p : List Int) (e0 : Int) (w : World) (e : Ending) (w' : World) : Prop := ∃ v, e = .returned (.tuple #[v, .int .i64 e0]) ∧ OwnI w' w.heap.size v p ∧ Below w.heap.size w w'
theorem CheckPlaces_is {xs : List Int} {r : Bool} {n : Nat} (hr : okP 9 100000 xs = r) (hn : xs.length = n) (A : Option Addr) (c : Nat) (w : World) (hc : n ≤ c) (hm : c ≤ 9223372036854775807) {B : Nat} (h : RD w B A (ints xs)) :
    Calls Try.prog 31 #[.slice A n c] w fun e w' => e = .returned (.int .i64 (if r = true then 0 else 12)) ∧ w = w' := by
  subst hn
  cases r with
  | true => exact CheckPlaces_yes hr A c w hc hm h
  | false => exact CheckPlaces_no hr A c w hc hm h
theorem CheckPlaces_y {xs : List Int} {n : Nat} (hr : okP 9 100000 xs = true) (hn : xs.length = n) (A : Option Addr) (c : Nat) (hc : n ≤ c) (hm : c ≤ 9223372036854775807) {w : World} (h : RD w w.heap.size A (ints xs)) :
    Hid (∀ W, Below w.heap.size w W → Calls Try.prog 31 #[.slice A n c] W fun e w' => e = .returned (.int .i64 0) ∧ W = w') := Lib.hid (fun W hb => CheckPlaces_is hr hn A c W hc hm (h.keep hb (Nat.le_refl _)))
theorem CheckPlaces_n {xs : List Int} {n : Nat} (hr : okP 9 100000 xs = false) (hn : xs.length = n) (A : Option Addr) (c : Nat) (hc : n ≤ c) (hm : c ≤ 9223372036854775807) {w : World} (h : RD w w.heap.size A (ints xs)) :
    Hid (∀ W, Below w.heap.size w W → Calls Try.prog 31 #[.slice A n c] W fun e w' => e = .returned (.int .i64 12) ∧ W = w') := Lib.hid (fun W hb => CheckPlaces_is hr hn A c W hc hm (h.keep hb (Nat.le_refl _)))

theorem Join_e1 {xs : List Int} {n1 : Nat} (hn1 : xs.length = n1) (A1 : Option Addr) (c1 : Nat) (A2 : Option Addr) (n2 c2 : Nat) (hc1 : n1 ≤ c1) (hm1 : c1 ≤ 9223372036854775807) (w : World) (h1 : RD w w.heap.size A1 (ints xs)) (p1 : okP 9 100000 xs = false) : Calls Try.prog 56 #[.slice A1 n1 c1, .slice A2 n2 c2] w (RetP1 [] 12 w) := by
  have H1 := CheckPlaces_n p1 hn1 A1 c1 hc1 hm1 h1
  clear h1 hn1
  go_enter Try.func56, Try.ntmps56
  go_wp2
  refine wp_loop_rounds 3 ?_
  rw [rounds_succ]
  go_wp2_with (go_at_call 31; (with_reducible refine (H1.out _ (Below.alloc (Below.refl _ _) (Nat.le_refl _) _)).mono ?_); rintro e w' ⟨rfl, rfl⟩)
  go_ret2
  exact ⟨_, rfl, OwnI.nil _ _, by repeat' (first | (with_reducible exact Below.refl _ _) | (with_reducible assumption) | (refine below_step (by assumption) ?_ ?_) | (with_reducible refine below_drewN ?_ _) | (with_reducible refine Below.drew ?_) | (with_reducible refine Below.alloc ?_ ?_ _) | (with_reducible refine Below.setCell ?_ ?_ _) | go_size)⟩
theorem pair_cells (w : World) (k : Nat) (a b c d : Value) (t : TypeId) : (((w.alloc (.cells #[a, b] t)).drewN k).alloc (.cells #[c, d] t)).cell? ⟨w.heap.size + 1, 0, none⟩ = some c ∧ (((w.alloc (.cells #[a, b] t)).drewN k).alloc (.cells #[c, d] t)).cell? ⟨w.heap.size + 1, 1, none⟩ = some d ∧ w.heap.size + 1 < (((w.alloc (.cells #[a, b] t)).drewN k).alloc (.cells #[c, d] t)).heap.size := by
  have h := cells_new2 ((w.alloc (.cells #[a, b] t)).drewN k) c d t
  rw [hsz_drewN, World.size_alloc] at h
  exact ⟨h.1, h.2, by rw [World.size_alloc, hsz_drewN, World.size_alloc]; omega⟩

section
variable {xs ys : List Int} {n1 n2 : Nat} (hn1 : xs.length = n1) (hn2 : ys.length = n2) (A1 : Option Addr) (c1 : Nat) (A2 : Option Addr) (c2 : Nat) (hc1 : n1 ≤ c1) (hm1 : c1 ≤ 9223372036854775807) (hc2 : n2 ≤ c2) (hm2 : c2 ≤ 9223372036854775807) (w : World) (h1 : RD w w.heap.size A1 (ints xs)) (h2 : RD w w.heap.size A2 (ints ys))
include hn1 hn2 hc1 hm1 hc2 hm2 h1 h2

theorem Join_e2 (p1 : okP 9 100000 xs = true) (p2 : okP 9 100000 ys = false) : Calls Try.prog 56 #[.slice A1 n1 c1, .slice A2 n2 c2] w (RetP1 [] 12 w) := by
  have H1 := CheckPlaces_y p1 hn1 A1 c1 hc1 hm1 h1
  have H2 := CheckPlaces_n p2 hn2 A2 c2 hc2 hm2 h2
  clear h1 h2 hn1 hn2
  go_enter Try.func56, Try.ntmps56
  go_wp2
  refine wp_loop_rounds 3 ?_
  rw [rounds_succ]
  go_wp2_with (go_at_call 31; (with_reducible refine (H1.out _ (Below.alloc (Below.refl _ _) (Nat.le_refl _) _)).mono ?_); rintro e w' ⟨rfl, rfl⟩)
  rw [rounds_succ]
  go_wp2_with (go_at_call 31; (with_reducible refine (H2.out _ (Below.alloc (Below.refl _ _) (Nat.le_refl _) _)).mono ?_); rintro e w' ⟨rfl, rfl⟩)
  go_ret2
  exact ⟨_, rfl, OwnI.nil _ _, by repeat' (first | (with_reducible exact Below.refl _ _) | (with_reducible assumption) | (refine below_step (by assumption) ?_ ?_) | (with_reducible refine below_drewN ?_ _) | (with_reducible refine Below.drew ?_) | (with_reducible refine Below.alloc ?_ ?_ _) | (with_reducible refine Below.setCell ?_ ?_ _) | go_size)⟩
set_option maxHeartbeats 1000000 in
theorem Join_ne (p1 : okP 9 100000 xs = true) (p2 : okP 9 100000 ys = true) (hne : ix xs (n1 - 1) ≠ ix ys 0) : Calls Try.prog 56 #[.slice A1 n1 c1, .slice A2 n2 c2] w (RetP1 [] 14 w) := by
  have H1 := CheckPlaces_y p1 hn1 A1 c1 hc1 hm1 h1
  have H2 := CheckPlaces_y p2 hn2 A2 c2 hc2 hm2 h2
  have t1 := (okP_true p1).two
  have t2 := (okP_true p2).two
  rw [hn1] at t1
  rw [hn2] at t2
  obtain ⟨b1, o1, rfl, hb1, q1⟩ := h1.ints (by omega)
  obtain ⟨b2, o2, rfl, hb2, q2⟩ := h2.ints (by omega)
  have x1 : w.cell? ⟨b1, o1 + (n1 - 1), none⟩ = some (.int .i64 (ix xs (n1 - 1))) := q1 _ (by omega)
  have x2 : w.cell? ⟨b2, o2, none⟩ = some (.int .i64 (ix ys 0)) := q2 0 (by omega)
  have hd : (ix xs (n1 - 1) != ix ys 0) = true := ibne_true hne
  have w2 : IntKind.i64.wrap ((n1 : Int) - 1) = (n1 : Int) - 1 := IntWalk.i64_in _ ⟨by omega, by omega⟩
  have w3 : 0 ≤ (n1 : Int) - 1 := by omega
  have w4 : (n1 : Int) - 1 < (n1 : Int) := by omega
  have w5 : 1 ≤ (n1 : Int) := by omega
  have w6 : ((n1 : Int) - 1).toNat = n1 - 1 := by omega
  have w7 : 0 < n2 := by omega
  have w8 : (0 : Int) < (n2 : Int) := by omega
  clear h1 h2 hn1 hn2 q1 q2 hne
  go_enter Try.func56, Try.ntmps56
  go_wp2
  refine wp_loop_rounds 3 ?_
  rw [rounds_succ]
  go_wp2_with (go_at_call 31; (with_reducible refine (H1.out _ (Below.alloc (Below.refl _ _) (Nat.le_refl _) _)).mono ?_); rintro e w' ⟨rfl, rfl⟩)
  rw [rounds_succ]
  go_wp2_with (go_at_call 31; (with_reducible refine (H2.out _ (Below.alloc (Below.refl _ _) (Nat.le_refl _) _)).mono ?_); rintro e w' ⟨rfl, rfl⟩)
  rw [rounds_succ]
  go_wp2
  go_quiet (fail)
  go_wp2
  go_ret2
  exact ⟨_, rfl, OwnI.nil _ _, by repeat' (first | (with_reducible exact Below.refl _ _) | (with_reducible assumption) | (refine below_step (by assumption) ?_ ?_) | (with_reducible refine below_drewN ?_ _) | (with_reducible refine Below.drew ?_) | (with_reducible refine Below.alloc ?_ ?_ _) | (with_reducible refine Below.setCell ?_ ?_ _) | go_size)⟩

/-- the lists joined. -/
def joinL (xs ys : List Int) : List Int := xs ++ ys.drop 1
set_option maxHeartbeats 4000000 in
theorem Join_in {r1 r2 : Bool} (p1 : okP 9 100000 xs = true) (p2 : okP 9 100000 ys = true) (he : ix xs (n1 - 1) = ix ys 0) (p3 : okP 9 100000 (joinL xs ys) = r1) (p4 : agreeB xs ys (joinL xs ys) = r2) :
    Calls Try.prog 56 #[.slice A1 n1 c1, .slice A2 n2 c2] w (RetP1 (if r1 = true ∧ r2 = true then joinL xs ys else []) (if r1 = true then (if r2 = true then 0 else 14) else 12) w) := by
  have H1 := CheckPlaces_y p1 hn1 A1 c1 hc1 hm1 h1
  have H2 := CheckPlaces_y p2 hn2 A2 c2 hc2 hm2 h2
  have hP1 := okP_true p1
  have hP2 := okP_true p2
  have t1 := hP1.two
  have t2 := hP2.two
  have u1 := hP1.many
  have u2 := hP2.many
  rw [hn1] at t1 u1
  rw [hn2] at t2 u2
  have hld : (ys.drop 1).length = n2 - 1 := by rw [List.length_drop, hn2]
  have hlj : (joinL xs ys).length = n1 + (n2 - 1) := by rw [joinL, List.length_append, hn1, hld]
  have rd1 := h1
  have rd2 := h2
  obtain ⟨b1, o1, rfl, hb1, q1⟩ := h1.ints (by omega)
  obtain ⟨b2, o2, rfl, hb2, q2⟩ := h2.ints (by omega)
  rw [hn1] at q1
  rw [hn2] at q2
  have x1 : w.cell? ⟨b1, o1 + (n1 - 1), none⟩ = some (.int .i64 (ix xs (n1 - 1))) := q1 _ (by omega)
  have x2 : w.cell? ⟨b2, o2, none⟩ = some (.int .i64 (ix ys 0)) := q2 0 (by omega)
  rw [he] at x1
  have HC : Hid (∀ (W : World) (q : Nat), Below w.heap.size w W → W.cell? ⟨q, 0, none⟩ = some (.slice (some ⟨b1, o1, none⟩) n1 c1) → W.cell? ⟨q, 1, none⟩ = some (.slice (some ⟨b2, o2 + 1, none⟩) (n2 - 1) (c2 - 1)) → q < W.heap.size → Calls Try.prog 94 #[.slice (some ⟨q, 0, none⟩) 2 2] W (RetI (joinL xs ys) W)) :=
    Lib.hid (fun W q hB g0 g1 gz => Concat_any xs (ys.drop 1) b1 o1 n1 c1 b2 (o2 + 1) (n2 - 1) (c2 - 1) q hn1 hld (by omega) (by omega) (by omega) W (fun j hj => cell_later hB (q1 j hj)) (fun j hj => by rw [ix_drop, Nat.add_assoc]; exact cell_later hB (q2 (1 + j) (by omega))) g0 g1 gz (by have := hB.size; omega) (by have := hB.size; omega))
  have HA : Hid (∀ (W : World) A c, Below w.heap.size w W → r1 = true → n1 + (n2 - 1) ≤ c → c ≤ 9223372036854775807 → RD W W.heap.size A (ints (joinL xs ys)) → Calls Try.prog 91 #[.slice (some ⟨b1, o1, none⟩) n1 c1, .slice (some ⟨b2, o2, none⟩) n2 c2, .slice A (n1 + (n2 - 1)) c] W fun e w' => e = .returned (.bool r2) ∧ Below W.heap.size W w') :=
    Lib.hid (fun W A c hB hr h1 h2 h3 => areParts_is p4 hP1 hP2 (okP_true (p3.trans hr)) hn1 hn2 hlj _ c1 _ c2 A c hc1 hm1 hc2 hm2 h1 h2 W ((rd1.keep hB (Nat.le_refl _)).more hB.size) ((rd2.keep hB (Nat.le_refl _)).more hB.size) h3)
  have HP : Hid (∀ (W : World) A c, n1 + (n2 - 1) ≤ c → c ≤ 9223372036854775807 → RD W W.heap.size A (ints (joinL xs ys)) → Calls Try.prog 31 #[.slice A (n1 + (n2 - 1)) c] W fun e w' => e = .returned (.int .i64 (if r1 = true then 0 else 12)) ∧ W = w') := Lib.hid (fun W A c h1 h2 h3 => CheckPlaces_is p3 hlj A c W h1 h2 h3)
  have HLJ := Lib.hid hlj
  have w2 : IntKind.i64.wrap ((n1 : Int) - 1) = (n1 : Int) - 1 := IntWalk.i64_in _ ⟨by omega, by omega⟩
  have w3 : 0 ≤ (n1 : Int) - 1 := by omega
  have w4 : (n1 : Int) - 1 < (n1 : Int) := by omega
  have w5 : 1 ≤ (n1 : Int) := by omega
  have w6 : ((n1 : Int) - 1).toNat = n1 - 1 := by omega
  have w7 : 0 < n2 := by omega
  have w8 : (0 : Int) < (n2 : Int) := by omega
  have w9 : 1 ≤ n2 := by omega
  have w10 : (1 : Int) ≤ (n2 : Int) := by omega
  clear h1 h2 hn1 hn2 q1 q2 he p1 p2 p3 p4 hP1 hP2 hld hlj rd1 rd2
  cases r1
  · show Calls Try.prog 56 #[.slice (some ⟨b1, o1, none⟩) n1 c1, .slice (some ⟨b2, o2, none⟩) n2 c2] w (RetP1 [] 12 w)
    go_enter Try.func56, Try.ntmps56
    go_wp2
    refine wp_loop_rounds 3 ?_
    rw [rounds_succ]
    go_wp2_with (go_at_call 31; (with_reducible refine (H1.out _ (Below.alloc (Below.refl _ _) (Nat.le_refl _) _)).mono ?_); rintro e w' ⟨rfl, rfl⟩)
    rw [rounds_succ]
    go_wp2_with (go_at_call 31; (with_reducible refine (H2.out _ (Below.alloc (Below.refl _ _) (Nat.le_refl _) _)).mono ?_); rintro e w' ⟨rfl, rfl⟩)
    rw [rounds_succ]
    go_wp2
    go_quiet (fail)
    go_wp2_with fail
    obtain ⟨g0, g1, gz⟩ := pair_cells w nq (.slice (some ⟨b1, o1, none⟩) n1 c1) (.slice (some ⟨b2, o2, none⟩) n2 c2) (.slice (some ⟨b1, o1, none⟩) n1 c1) (.slice (some ⟨b2, o2 + 1, none⟩) (n2 - 1) (c2 - 1)) 22
    have hbW : Below w.heap.size w (((w.alloc (.cells #[.slice (some ⟨b1, o1, none⟩) n1 c1, .slice (some ⟨b2, o2, none⟩) n2 c2] 22)).drewN nq).alloc (.cells #[.slice (some ⟨b1, o1, none⟩) n1 c1, .slice (some ⟨b2, o2 + 1, none⟩) (n2 - 1) (c2 - 1)] 22)) := by repeat' (first | (with_reducible exact Below.refl _ _) | (with_reducible assumption) | (refine below_step (by assumption) ?_ ?_) | (with_reducible refine below_drewN ?_ _) | (with_reducible refine Below.drew ?_) | (with_reducible refine Below.alloc ?_ ?_ _) | (with_reducible refine Below.setCell ?_ ?_ _) | go_size)
    refine (HC.out _ (w.heap.size + 1) hbW g0 g1 gz).mono ?_
    rintro e V ⟨v, rfl, ho, hb⟩
    have HBV := Lib.hid (below_step hb hbW hbW.size)
    have HO := Lib.hid (ho.less hbW.size)
    obtain ⟨A9, k9, rfl, hk9, hkm9, hrd9⟩ := ho.formN HLJ.out
    have HR := Lib.hid hrd9
    clear g0 g1 gz hbW hb ho hrd9 HC H1 H2 x1 x2 w2 w3 w4 w5 w6
    go_wp2_with (go_at_call 31; (with_reducible refine (HP.out _ _ _ hk9 hkm9 HR.out).mono ?_); rintro e w' ⟨rfl, rfl⟩)
    go_ret2
    exact ⟨_, rfl, OwnI.nil _ _, HBV.out⟩
  · cases r2
    · show Calls Try.prog 56 #[.slice (some ⟨b1, o1, none⟩) n1 c1, .slice (some ⟨b2, o2, none⟩) n2 c2] w (RetP1 [] 14 w)
      go_enter Try.func56, Try.ntmps56
      go_wp2
      refine wp_loop_rounds 3 ?_
      rw [rounds_succ]
      go_wp2_with (go_at_call 31; (with_reducible refine (H1.out _ (Below.alloc (Below.refl _ _) (Nat.le_refl _) _)).mono ?_); rintro e w' ⟨rfl, rfl⟩)
      rw [rounds_succ]
      go_wp2_with (go_at_call 31; (with_reducible refine (H2.out _ (Below.alloc (Below.refl _ _) (Nat.le_refl _) _)).mono ?_); rintro e w' ⟨rfl, rfl⟩)
      rw [rounds_succ]
      go_wp2
      go_quiet (fail)
      go_wp2_with fail
      obtain ⟨g0, g1, gz⟩ := pair_cells w nq (.slice (some ⟨b1, o1, none⟩) n1 c1) (.slice (some ⟨b2, o2, none⟩) n2 c2) (.slice (some ⟨b1, o1, none⟩) n1 c1) (.slice (some ⟨b2, o2 + 1, none⟩) (n2 - 1) (c2 - 1)) 22
      have hbW : Below w.heap.size w (((w.alloc (.cells #[.slice (some ⟨b1, o1, none⟩) n1 c1, .slice (some ⟨b2, o2, none⟩) n2 c2] 22)).drewN nq).alloc (.cells #[.slice (some ⟨b1, o1, none⟩) n1 c1, .slice (some ⟨b2, o2 + 1, none⟩) (n2 - 1) (c2 - 1)] 22)) := by repeat' (first | (with_reducible exact Below.refl _ _) | (with_reducible assumption) | (refine below_step (by assumption) ?_ ?_) | (with_reducible refine below_drewN ?_ _) | (with_reducible refine Below.drew ?_) | (with_reducible refine Below.alloc ?_ ?_ _) | (with_reducible refine Below.setCell ?_ ?_ _) | go_size)
      refine (HC.out _ (w.heap.size + 1) hbW g0 g1 gz).mono ?_
      rintro e V ⟨v, rfl, ho, hb⟩
      have HBV := Lib.hid (below_step hb hbW hbW.size)
      have HO := Lib.hid (ho.less hbW.size)
      obtain ⟨A9, k9, rfl, hk9, hkm9, hrd9⟩ := ho.formN HLJ.out
      have HR := Lib.hid hrd9
      clear g0 g1 gz hbW hb ho hrd9 HC H1 H2 x1 x2 w2 w3 w4 w5 w6
      go_wp2_with (first | (go_at_call 31; (with_reducible refine (HP.out _ _ _ hk9 hkm9 HR.out).mono ?_); rintro e w' ⟨rfl, rfl⟩) | (go_at_call 91; (with_reducible refine (HA.out _ _ _ HBV.out (by first | rfl | trivial) hk9 hkm9 HR.out).mono ?_); rintro e V2 ⟨rfl, hb2⟩))
      go_ret2
      exact ⟨_, rfl, OwnI.nil _ _, below_step hb2 HBV.out HBV.out.size⟩
    · show Calls Try.prog 56 #[.slice (some ⟨b1, o1, none⟩) n1 c1, .slice (some ⟨b2, o2, none⟩) n2 c2] w (RetP1 (joinL xs ys) 0 w)
      go_enter Try.func56, Try.ntmps56
      go_wp2
      refine wp_loop_rounds 3 ?_
      rw [rounds_succ]
      go_wp2_with (go_at_call 31; (with_reducible refine (H1.out _ (Below.alloc (Below.refl _ _) (Nat.le_refl _) _)).mono ?_); rintro e w' ⟨rfl, rfl⟩)
      rw [rounds_succ]
      go_wp2_with (go_at_call 31; (with_reducible refine (H2.out _ (Below.alloc (Below.refl _ _) (Nat.le_refl _) _)).mono ?_); rintro e w' ⟨rfl, rfl⟩)
      rw [rounds_succ]
      go_wp2
      go_quiet (fail)
      go_wp2_with fail
      obtain ⟨g0, g1, gz⟩ := pair_cells w nq (.slice (some ⟨b1, o1, none⟩) n1 c1) (.slice (some ⟨b2, o2, none⟩) n2 c2) (.slice (some ⟨b1, o1, none⟩) n1 c1) (.slice (some ⟨b2, o2 + 1, none⟩) (n2 - 1) (c2 - 1)) 22
      have hbW : Below w.heap.size w (((w.alloc (.cells #[.slice (some ⟨b1, o1, none⟩) n1 c1, .slice (some ⟨b2, o2, none⟩) n2 c2] 22)).drewN nq).alloc (.cells #[.slice (some ⟨b1, o1, none⟩) n1 c1, .slice (some ⟨b2, o2 + 1, none⟩) (n2 - 1) (c2 - 1)] 22)) := by repeat' (first | (with_reducible exact Below.refl _ _) | (with_reducible assumption) | (refine below_step (by assumption) ?_ ?_) | (with_reducible refine below_drewN ?_ _) | (with_reducible refine Below.drew ?_) | (with_reducible refine Below.alloc ?_ ?_ _) | (with_reducible refine Below.setCell ?_ ?_ _) | go_size)
      refine (HC.out _ (w.heap.size + 1) hbW g0 g1 gz).mono ?_
      rintro e V ⟨v, rfl, ho, hb⟩
      have HBV := Lib.hid (below_step hb hbW hbW.size)
      have HO := Lib.hid (ho.less hbW.size)
      obtain ⟨A9, k9, rfl, hk9, hkm9, hrd9⟩ := ho.formN HLJ.out
      have HR := Lib.hid hrd9
      clear g0 g1 gz hbW hb ho hrd9 HC H1 H2 x1 x2 w2 w3 w4 w5 w6
      go_wp2_with (first | (go_at_call 31; (with_reducible refine (HP.out _ _ _ hk9 hkm9 HR.out).mono ?_); rintro e w' ⟨rfl, rfl⟩) | (go_at_call 91; (with_reducible refine (HA.out _ _ _ HBV.out (by first | rfl | trivial) hk9 hkm9 HR.out).mono ?_); rintro e V2 ⟨rfl, hb2⟩))
      go_ret2
      exact ⟨_, rfl, HO.out.kept hb2 (Nat.le_refl _), below_step hb2 HBV.out HBV.out.size⟩

/-- what Join answers. -/
def joinE (xs ys : List Int) : Int := if okP 9 100000 xs = true ∧ okP 9 100000 ys = true then (if ix xs (xs.length - 1) = ix ys 0 then (if okP 9 100000 (joinL xs ys) = true then (if agreeB xs ys (joinL xs ys) = true then 0 else 14) else 12) else 14) else 12
def joinV (xs ys : List Int) : List Int := if joinE xs ys = 0 then joinL xs ys else []
theorem Join_any : Calls Try.prog 56 #[.slice A1 n1 c1, .slice A2 n2 c2] w (RetP1 (joinV xs ys) (joinE xs ys) w) := by
  unfold joinV
  cases p1 : okP 9 100000 xs with
  | false =>
    have e : joinE xs ys = 12 := by unfold joinE; rw [if_neg (by rw [p1]; simp)]
    rw [e]; exact Join_e1 hn1 A1 c1 A2 n2 c2 hc1 hm1 w h1 p1
  | true =>
    cases p2 : okP 9 100000 ys with
    | false =>
      have e : joinE xs ys = 12 := by unfold joinE; rw [if_neg (by rw [p2]; simp)]
      rw [e]; exact Join_e2 hn1 hn2 A1 c1 A2 c2 hc1 hm1 hc2 hm2 w h1 h2 p1 p2
    | true =>
      by_cases he : ix xs (n1 - 1) = ix ys 0
      · have hin := Join_in hn1 hn2 A1 c1 A2 c2 hc1 hm1 hc2 hm2 w h1 h2 p1 p2 he rfl rfl
        cases p3 : okP 9 100000 (joinL xs ys) with
        | false =>
          have e : joinE xs ys = 12 := by unfold joinE; rw [if_pos ⟨p1, p2⟩, hn1, if_pos he, if_neg (by rw [p3]; simp)]
          rw [e]; rw [p3] at hin; exact hin
        | true =>
          cases p4 : agreeB xs ys (joinL xs ys) with
          | false =>
            have e : joinE xs ys = 14 := by unfold joinE; rw [if_pos ⟨p1, p2⟩, hn1, if_pos he, if_pos p3, if_neg (by rw [p4]; simp)]
            rw [e]; rw [p3, p4] at hin; exact hin
          | true =>
            have e : joinE xs ys = 0 := by unfold joinE; rw [if_pos ⟨p1, p2⟩, hn1, if_pos he, if_pos p3, if_pos p4]
            rw [e]; rw [p3, p4] at hin; exact hin
      · have e : joinE xs ys = 14 := by unfold joinE; rw [if_pos ⟨p1, p2⟩, hn1, if_neg he]
        rw [e]; exact Join_ne hn1 hn2 A1 c1 A2 c2 hc1 hm1 hc2 hm2 w h1 h2 p1 p2 he
end

end Go.Proofs.Ytdlmdaononclgaa
