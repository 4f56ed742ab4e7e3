import Derived.Test.YtdlmdaononclgaaJoinW
import Derived.Outline
/- The reference's agree, Part, Join. -/
namespace Go.Proofs.Ytdlmdaononclgaa
open Go.RowKit
set_option linter.unusedVariables false
set_option linter.unusedSimpArgs false

theorem RD.take {w : World} {B : Nat} {A : Option Addr} {cs : List Value} (h : RD w B A cs) (k : Nat) : RD w B A (cs.take k) := by
  rcases h with rfl | ⟨b, off, rfl, hb, hc⟩
  · left; simp
  · refine .inr ⟨b, off, rfl, hb, fun j v hv => hc j v ?_⟩
    rw [List.getElem?_take] at hv
    split at hv
    · exact hv
    · cases hv
theorem RD.drop {w : World} {B b off : Nat} {cs : List Value} (h : RD w B (some ⟨b, off, none⟩) cs) (k : Nat) : RD w B (some ⟨b, off + k, none⟩) (cs.drop k) := by
  rcases h with rfl | ⟨b', off', e, hb, hc⟩
  · left; simp
  · cases e
    refine .inr ⟨b, off + k, rfl, hb, fun j v hv => ?_⟩
    rw [List.getElem?_drop] at hv
    rw [Nat.add_assoc]
    exact hc (k + j) v hv
theorem gcells_take (gs : List (Int × Int)) : ∀ k, gcells (gs.take k) = (gcells gs).take (k * 2) := by
  induction gs with
  | nil => intro k; simp [gcells]
  | cons p gs ih =>
    intro k
    cases k with
    | zero => simp [gcells]
    | succ k =>
      show gcells (p :: gs.take k) = (gcells (p :: gs)).take ((k + 1) * 2)
      have e : ∀ l, gcells (p :: l) = .int .i64 p.1 :: .int .i64 p.2 :: gcells l := fun l => rfl
      rw [e, e, ih k, Nat.succ_mul]; rfl
theorem gcells_drop (gs : List (Int × Int)) : ∀ k, gcells (gs.drop k) = (gcells gs).drop (k * 2) := by
  induction gs with
  | nil => intro k; simp [gcells]
  | cons p gs ih =>
    intro k
    cases k with
    | zero => simp
    | succ k =>
      have e : ∀ l, gcells (p :: l) = .int .i64 p.1 :: .int .i64 p.2 :: gcells l := fun l => rfl
      rw [List.drop_succ_cons, e, ih k, Nat.succ_mul]; rfl
theorem GD.take {w : World} {B : Nat} {A : Option Addr} {gs : List (Int × Int)} (h : GD w B A gs) (k : Nat) : GD w B A (gs.take k) := by
  unfold GD; rw [gcells_take]; exact RD.take h _
theorem GD.drop {w : World} {B b off : Nat} {gs : List (Int × Int)} (h : GD w B (some ⟨b, off, none⟩) gs) (k : Nat) : GD w B (some ⟨b, off + k * 2, none⟩) (gs.drop k) := by
  unfold GD; rw [gcells_drop]; exact RD.drop h _
/-- two parts agree with a whole. -/
theorem agree_eq {g ga gb : List (Int × Int)} {k : Int} (hl : g.length = ga.length + gb.length) : decide (ga ++ shiftG k gb = g) = (sameG (g.take ga.length) ga 0 && sameG (g.drop ga.length) gb k) := by
  have e0 : (ga.map fun p => (p.1 + 0, p.2)) = ga := by simp
  by_cases h : ga ++ shiftG k gb = g
  · rw [decide_eq_true h]
    subst h
    simp only [sameG, e0]
    simp [shiftG]
  · rw [decide_eq_false h]
    refine (Bool.eq_false_iff.2 fun hb => h ?_).symm
    simp only [sameG, Bool.and_eq_true, decide_eq_true_eq, e0] at hb
    rw [← List.take_append_drop ga.length g, hb.1, hb.2]; rfl
theorem agree_len {g ga gb : List (Int × Int)} {k : Int} (hl : g.length ≠ ga.length + gb.length) : decide (ga ++ shiftG k gb = g) = false :=
  decide_eq_false fun h => hl (by rw [← h]; simp [shiftG])
theorem refgroups_n {xs : List Int} {n : Nat} (hn : xs.length = n) (A : Option Addr) (c : Nat) (hP : OkP 9 100000 xs) (hc : n ≤ c) (hm : c ≤ 9223372036854775807) (w : World) (h : RD w w.heap.size A (ints xs)) :
    Calls Try.prog 74 #[.slice A n c] w (RetG (groupsZ xs) w) := by
  subst hn; exact refgroups_any xs A c hP hc hm w h

set_option maxHeartbeats 2000000 in
set_option maxRecDepth 100000 in
theorem agree_is {xs : List Int} {r : Bool} {k n : Nat} (hP : OkP 9 100000 xs) (hn : xs.length = n) (hk1 : 1 ≤ k) (hk2 : k + 2 ≤ n) (hr : agreeB (xs.take (k + 1)) (xs.drop k) xs = r) (A : Option Addr) (c : Nat) (hc : n ≤ c) (hm : c ≤ 9223372036854775807) (w : World) (h : RD w w.heap.size A (ints xs)) :
    Calls Try.prog 93 #[.slice A n c, .int .i64 k] w fun e w' => e = .returned (.bool r) ∧ Below w.heap.size w w' := by
  have n9 : n ≤ 9 := by have := hP.many; omega
  have hl1 : (xs.take (k + 1)).length = k + 1 := by rw [List.length_take]; omega
  have hl2 : (xs.drop k).length = n - k := by rw [List.length_drop, hn]
  obtain ⟨b, off, rfl, hb, hcell⟩ := h.ints (by omega)
  have r1 : RD w w.heap.size (some ⟨b, off, none⟩) (ints (xs.take (k + 1))) := by unfold ints; rw [List.map_take]; exact h.take _
  have r2 : RD w w.heap.size (some ⟨b, off + k, none⟩) (ints (xs.drop k)) := by unfold ints; rw [List.map_drop]; exact h.drop _
  have G1 : Hid (∀ W, Below w.heap.size w W → Calls Try.prog 74 #[.slice (some ⟨b, off, none⟩) n c] W (RetG (groupsZ xs) W)) := Lib.hid (fun W hB => refgroups_n hn _ c hP hc hm W ((h.keep hB (Nat.le_refl _)).more hB.size))
  have G2 : Hid (∀ W, Below w.heap.size w W → Calls Try.prog 74 #[.slice (some ⟨b, off, none⟩) (k + 1) c] W (RetG (groupsZ (xs.take (k + 1))) W)) := Lib.hid (fun W hB => refgroups_n hl1 _ c (ok_take hP hk1 (by omega)) (by omega) hm W ((r1.keep hB (Nat.le_refl _)).more hB.size))
  have G3 : Hid (∀ W, Below w.heap.size w W → Calls Try.prog 74 #[.slice (some ⟨b, off + k, none⟩) (n - k) (c - k)] W (RetG (groupsZ (xs.drop k)) W)) := Lib.hid (fun W hB => refgroups_n hl2 _ (c - k) (ok_drop hP (by omega)) (by omega) (by omega) W ((r2.keep hB (Nat.le_refl _)).more hB.size))
  have hr' : decide (groupsZ (xs.take (k + 1)) ++ shiftG (k : Int) (groupsZ (xs.drop k)) = groupsZ xs) = r := by
    rw [← hr]; unfold agreeB; rw [hl1, show (((k + 1 : Nat) : Int) - 1) = (k : Int) by omega]
  have hbd2 := groups_bd (xs := xs.take (k + 1)) (by omega)
  have hbd3 := groups_bd (xs := xs.drop k) (by omega)
  have g3pos : 0 < (groupsZ (xs.drop k)).length := by
    obtain ⟨g0, g1⟩ := grp_first (xs := xs.drop k) (f := (xs.drop k).length) (i := 0) (by omega) (by omega)
    refine Nat.pos_of_ne_zero fun h0 => ?_
    have := g1 h0
    omega
  have ll1 : (groupsZ xs).length ≤ 9 := by have := groups_length xs; omega
  have ll2 : (groupsZ (xs.take (k + 1))).length ≤ 9 := by have := groups_length (xs.take (k + 1)); omega
  have ll3 : (groupsZ (xs.drop k)).length ≤ 9 := by have := groups_length (xs.drop k); omega
  obtain ⟨g, hg⟩ : ∃ g, groupsZ xs = g := ⟨_, rfl⟩
  obtain ⟨ga, hga⟩ : ∃ g, groupsZ (xs.take (k + 1)) = g := ⟨_, rfl⟩
  obtain ⟨gb, hgb⟩ : ∃ g, groupsZ (xs.drop k) = g := ⟨_, rfl⟩
  rw [hg] at G1 hr' ll1
  rw [hga] at G2 hr' ll2 hbd2
  rw [hgb] at G3 hr' ll3 hbd3 g3pos
  obtain ⟨l1, hl1'⟩ : ∃ m, g.length = m := ⟨_, rfl⟩
  obtain ⟨l2, hl2'⟩ : ∃ m, ga.length = m := ⟨_, rfl⟩
  obtain ⟨l3, hl3'⟩ : ∃ m, gb.length = m := ⟨_, rfl⟩
  rw [hl1'] at ll1
  rw [hl2'] at ll2
  rw [hl3'] at ll3 g3pos
  have L1 := Lib.hid hl1'
  have L2 := Lib.hid hl2'
  have L3 := Lib.hid hl3'
  have HR := Lib.hid hr'
  have BD2 := Lib.hid hbd2
  have BD3 := Lib.hid hbd3
  have w1 : IntKind.i64.wrap ((k : Int) + 1) = (k : Int) + 1 := IntWalk.i64_in _ ⟨by omega, by omega⟩
  have w3 : ((k : Int) + 1).toNat = k + 1 := by omega
  have w4 : (0 : Int) ≤ (k : Int) + 1 := by omega
  have w5 : (k : Int) + 1 ≤ (c : Int) := by omega
  have w6 : (k : Int) ≤ (n : Int) := by omega
  have w7 : k ≤ n := by omega
  have w8 : k + 1 ≤ c := by omega
  clear hg hga hgb hl1' hl2' hl3' hr hr' h hcell r1 r2 hl1 hl2 hn hP hbd2 hbd3
  go_enter Try.func93, Try.ntmps93
  go_wp2_with fail
  refine (G1.out _ (Below.refl _ _)).mono ?_
  rintro e V1 ⟨v1, rfl, o1, hb1⟩
  obtain ⟨A1, c1, rfl, hc1, hm1, _⟩ := o1.formN' L1.out
  have B1 := Lib.hid hb1
  have O1 := Lib.hid o1
  clear hb1 o1
  go_wp2_with fail
  refine (G2.out _ B1.out).mono ?_
  rintro e V2 ⟨v2, rfl, o2, hb2⟩
  obtain ⟨A2, c2, rfl, hc2, hm2, _⟩ := o2.formN' L2.out
  have B2 := Lib.hid (below_step hb2 B1.out B1.out.size)
  have O2 := Lib.hid o2
  have O1' := Lib.hid (O1.out.kept hb2 (Nat.le_refl _))
  clear hb2 o2 O1
  go_wp2_with fail
  refine (G3.out _ B2.out).mono ?_
  rintro e V3 ⟨v3, rfl, o3, hb3⟩
  obtain ⟨A3, c3, rfl, hc3, hm3, hd3⟩ := o3.formN' L3.out
  have B3 := Lib.hid (below_step hb3 B2.out B2.out.size)
  obtain ⟨_, _, e1, _, _, hd1⟩ := (O1'.out.kept hb3 (Nat.le_refl _)).formN' L1.out
  obtain ⟨_, _, e2, _, _, hd2⟩ := (O2.out.kept hb3 (Nat.le_refl _)).formN' L2.out
  cases e1
  cases e2
  have D3 := Lib.hid hd3
  have D1 := Lib.hid hd1
  have D2 := Lib.hid hd2
  clear hb3 o3 O1' O2 hd1 hd2 hd3 G1 G2 G3 w1 w3 w4 w5 w6
  by_cases hll : l1 = l2 + l3
  · obtain ⟨b1, o1, rfl, hb1, _⟩ := D1.out.at (by rw [L1.out]; omega)
    obtain ⟨s1, hs1⟩ : ∃ s, sameG (g.take l2) ga 0 = s := ⟨_, rfl⟩
    obtain ⟨s2, hs2⟩ : ∃ s, sameG (g.drop l2) gb k = s := ⟨_, rfl⟩
    have hrs : r = (s1 && s2) := by
      have e := agree_eq (g := g) (ga := ga) (gb := gb) (k := k) (by rw [L1.out, L2.out, L3.out]; exact hll)
      rw [L2.out, hs1, hs2] at e
      rw [← HR.out, e]
    have T1 : Hid (∀ W, Below V3.heap.size V3 W → Calls Try.prog 30 #[.slice (some ⟨b1, o1, none⟩) l2 c1, .slice A2 l2 c2, .int .i64 0] W fun e w' => e = .returned (.bool s1) ∧ ∃ q, w' = W.drewN q) := Lib.hid (fun W hB => SameGroups_is hs1 (by rw [List.length_take, L1.out]; omega) L2.out _ c1 _ c2 (by omega) hm1 hc2 hm2 (by omega) (by omega) BD2.out W (RD.keep (D1.out.take l2) hB (Nat.le_refl _)) (RD.keep D2.out hB (Nat.le_refl _)))
    have T2 : Hid (∀ W, Below V3.heap.size V3 W → Calls Try.prog 30 #[.slice (some ⟨b1, o1 + l2 * 2, none⟩) (l1 - l2) (c1 - l2), .slice A3 l3 c3, .int .i64 k] W fun e w' => e = .returned (.bool s2) ∧ ∃ q, w' = W.drewN q) := Lib.hid (fun W hB => SameGroups_is hs2 (by rw [List.length_drop, L1.out]) L3.out _ (c1 - l2) _ c3 (by omega) (by omega) hc3 hm3 (by omega) (by omega) BD3.out W (RD.keep (D1.out.drop l2) hB (Nat.le_refl _)) (RD.keep D3.out hB (Nat.le_refl _)))
    subst hrs
    have f1 : l2 ≤ l1 := by omega
    have f2 : l2 < c1 := by omega
    have f4 : ¬ c1 = l2 := by omega
    have f5 : ¬ l2 = c1 := by omega
    have f6 : ¬ c1 - l2 = 0 := by omega
    have f7 : l2 ≤ c1 := by omega
    have f3 : (l2 : Int) ≤ (l1 : Int) := by omega
    have e1 : ((l1 : Int) != (l2 : Int) + (l3 : Int)) = false := ibne_false (by omega)
    clear hs1 hs2 hll
    cases s1
    all_goals
      go_wp2_with fail
      refine (T1.out _ (Below.refl _ _)).mono ?_
      rintro e W1 ⟨rfl, k1, rfl⟩
      go_wp2_with fail
      refine (T2.out _ (Below.drewN' (Below.refl _ _) k1)).mono ?_
      rintro e W2 ⟨rfl, k2, rfl⟩
      go_wp2
      go_ret
      exact ⟨rfl, below_drewN B3.out _⟩
  · have hrf : r = false := by
      rw [← HR.out]; exact agree_len (by rw [L1.out, L2.out, L3.out]; exact hll)
    subst hrf
    have e1 : ((l1 : Int) != (l2 : Int) + (l3 : Int)) = true := ibne_true (by omega)
    go_wp2
    go_ret
    exact ⟨rfl, B3.out⟩

end Go.Proofs.Ytdlmdaononclgaa
