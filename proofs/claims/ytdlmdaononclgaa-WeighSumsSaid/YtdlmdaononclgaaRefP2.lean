import Derived.Test.YtdlmdaononclgaaRefP
import Derived.Deep.RegionLawGrows
import Derived.Outline
/- The reference's Part and Join. -/
namespace Go.Proofs.Ytdlmdaononclgaa
open Go.RowKit
set_option linter.unusedVariables false
set_option linter.unusedSimpArgs false

variable {w : World}
/-- append([]int{}, ..) in a region that draws. -/
theorem op_clone {ops : Array Oper} {o : Oper} {a : Act} {K : Act → World → Prop} {Q : Exit → Act → World → Prop} {E : Prop} (hgd : o.guard = none) (s x : Operand)
    (ho : o.op = .call { callee := .builtin .append, args := #[s, x], argTypes := #[22, 22] })
    (g : Addr) (hs : a.eval s = .slice (some g) 0 0) (b off m c : Nat) (ys : List Int) (hm : ys.length = m) (h0 : 0 < m) (h9 : m ≤ 1000) (hx : a.eval x = .slice (some ⟨b, off, none⟩) m c)
    (hc : ∀ j, j < m → w.cell? ⟨b, off + j, none⟩ = some (.int .i64 (ix ys j)))
    (h : ∀ A cap w', m ≤ cap → cap ≤ 9223372036854775807 → OwnI w' w.heap.size (.slice A m cap) ys → Below w.heap.size w w' → K (a.put o.dst (.slice A m cap)) w') :
    if Region.wanted o (yielded ops a.tmps) = true then Oper.wp Try.prog o a w K Q else E := by
  subst hm
  obtain ⟨i0, hi, hz0, hz1, hz2⟩ := info_parts infoInt
  refine step_append_grows hgd s x 22 ho 3 i0 (.int .i64 0) 1 8 Try.underlying22 hi hz0 hz1 hz2 rfl (by decide) (some g) 0 0 [] hs (fun e => by cases e) rfl (fun b' e j u hu => by simp at hu)
    ⟨b, off, none⟩ ys.length c (ints ys) hx (by rw [ints_length]; omega) (fun j u hu => by
      rw [Addr.add_lit]
      have hj : j < ys.length := by have := (List.getElem?_eq_some_iff.1 hu).1; rwa [ints_length] at this
      rw [hc j hj]
      rw [ints_get, List.getElem?_eq_getElem hj] at hu
      rw [← hu]; simp [ix, List.getD, List.getElem?_eq_getElem hj]) (fun u hu => by simp only [ints, List.mem_map] at hu; obtain ⟨z, _, rfl⟩ := hu; rfl) (by omega) (by unfold maxLen; omega) (by omega) ?_
  intro v' w' h2 h3
  rw [List.nil_append, Nat.zero_add] at h2
  have hown : OwnI w' w.heap.size v' ys := h2
  obtain ⟨A, cap, rfl, g1, g2, _⟩ := hown.form
  exact h A cap w' g1 g2 hown ⟨h3.os, h3.tape, h3.output, h3.size, fun k hk => h3.block k hk (by simp)⟩
/-- append(v, ..) to an own slice, in a region that draws. -/
theorem op_appN {ops : Array Oper} {o : Oper} {a : Act} {K : Act → World → Prop} {Q : Exit → Act → World → Prop} {E : Prop} (hgd : o.guard = none) (s x : Operand)
    (ho : o.op = .call { callee := .builtin .append, args := #[s, x], argTypes := #[22, 22] })
    (base : Nat) (v : Value) (xs : List Int) (hs : a.eval s = v) (hown : OwnI w base v xs) (b off m c n : Nat) (ys : List Int) (hm : ys.length = m) (hn : (xs ++ ys).length = n) (hx : a.eval x = .slice (some ⟨b, off, none⟩) m c)
    (hc : ∀ j, j < m → w.cell? ⟨b, off + j, none⟩ = some (.int .i64 (ix ys j)))
    (hlen : n ≤ 1000000) (hbase : base ≤ w.heap.size)
    (h : ∀ A cap w', n ≤ cap → cap ≤ 9223372036854775807 → OwnI w' base (.slice A n cap) (xs ++ ys) → w.grownBy w' v.ownBlock → K (a.put o.dst (.slice A n cap)) w') :
    if Region.wanted o (yielded ops a.tmps) = true then Oper.wp Try.prog o a w K Q else E := by
  subst hm
  rw [List.length_append] at hn
  have hw : Region.wanted o (yielded ops a.tmps) = true := by simp [Region.wanted, hgd]
  rw [if_pos hw]
  obtain ⟨i0, hi, hz0, hz1, hz2⟩ := info_parts infoInt
  obtain ⟨v', w', hrun, h2, h3, _⟩ := run_append_own (P := Try.prog) w base 22 o.type 3 i0 (.int .i64 0) 1 8 Try.underlying22 hi hz0 hz1 hz2 rfl (by decide) v xs.length (ints xs) hown
    ⟨b, off, none⟩ ys.length c (ints ys) (by rw [ints_length]; omega) (fun j u hu => by
      rw [Addr.add_lit]
      have hj : j < ys.length := by have := (List.getElem?_eq_some_iff.1 hu).1; rwa [ints_length] at this
      rw [hc j hj]
      rw [ints_get, List.getElem?_eq_getElem hj] at hu
      rw [← hu]; simp [ix, List.getD, List.getElem?_eq_getElem hj]) (fun u hu => by simp only [ints, List.mem_map] at hu; obtain ⟨z, _, rfl⟩ := hu; rfl) (by unfold maxLen; omega) (by omega) hbase
  unfold Oper.wp execOp
  simp only [ho, resolve, invoke, builtin, Sem.run_bind, Sem.run_pure, Result.andThen_ok, List.map_toArray, List.map_cons, List.map_nil, hs, hx, hrun]
  have h4 : OwnI w' base v' (xs ++ ys) := by
    unfold OwnI
    rw [List.length_append]
    simpa [ints] using h2
  obtain ⟨A, cap, rfl, g1, g2, _⟩ := h4.form
  rw [List.length_append, hn] at g1 h4 ⊢
  exact h A cap w' g1 g2 h4 h3

theorem refCheck_y {xs : List Int} {n : Nat} (hr : okP 9 100000 xs = true) (hn : xs.length = n) (A : Option Addr) (c : Nat) (hc : n ≤ c) (hm : c ≤ 9223372036854775807) {w : World} (h : RD w w.heap.size A (ints xs)) :
    Hid (∀ W, Below w.heap.size w W → Calls Try.prog 32 #[.slice A n c] W fun e w' => e = .returned (.int .i64 0) ∧ ∃ k, w' = W.drewN k) := Lib.hid (fun W hb => by subst hn; exact refCheckPlaces_yes hr A c W hc hm (h.keep hb (Nat.le_refl _)))
theorem refCheck_n {xs : List Int} {n : Nat} (hr : okP 9 100000 xs = false) (hn : xs.length = n) (A : Option Addr) (c : Nat) (hc : n ≤ c) (hm : c ≤ 9223372036854775807) {w : World} (h : RD w w.heap.size A (ints xs)) :
    Hid (∀ W, Below w.heap.size w W → Calls Try.prog 32 #[.slice A n c] W fun e w' => e = .returned (.int .i64 12) ∧ ∃ k, w' = W.drewN k) := Lib.hid (fun W hb => by subst hn; exact refCheckPlaces_no hr A c W hc hm (h.keep hb (Nat.le_refl _)))

theorem refPart_e12 {xs : List Int} (hp : okP 9 100000 xs = false) (at' : Int) (A : Option Addr) (c : Nat) (hc : xs.length ≤ c) (hm : c ≤ 9223372036854775807) (w : World) (h : RD w w.heap.size A (ints xs)) :
    Calls Try.prog 55 #[.slice A xs.length c, .int .i64 at'] w (RetP2 [] [] 12 w) := by
  have H1 := refCheck_n hp rfl A c hc hm h
  clear h hp
  go_enter Try.func55, Try.ntmps55
  go_wp2_with (go_at_call 32; (with_reducible refine (H1.out _ (Below.refl _ _)).mono ?_); rintro e w' ⟨rfl, k1, rfl⟩)
  go_ret3
  exact ⟨_, _, rfl, OwnI.nil _ _, OwnI.nil _ _, by repeat' (first | (with_reducible exact Below.refl _ _) | (with_reducible assumption) | (refine below_step (by assumption) ?_ ?_) | (with_reducible refine below_drewN ?_ _) | (with_reducible refine Below.drew ?_) | (with_reducible refine Below.alloc ?_ ?_ _) | (with_reducible refine Below.setCell ?_ ?_ _) | go_size)⟩
theorem refPart_out {xs : List Int} (hp : okP 9 100000 xs = true) {at' : Int} (ho : within at' 1 ((xs.length : Int) - 2) = false) (A : Option Addr) (c : Nat) (hc : xs.length ≤ c) (hm : c ≤ 9223372036854775807) (w : World) (h : RD w w.heap.size A (ints xs)) :
    Calls Try.prog 55 #[.slice A xs.length c, .int .i64 at'] w (RetP2 [] [] 14 w) := by
  have H1 := refCheck_y hp rfl A c hc hm h
  have h2 := (okP_true hp).two
  have h9 := (okP_true hp).many
  have hd : at' < 1 ∨ (1 ≤ at' ∧ (xs.length : Int) - 1 ≤ at') := by
    simp only [within, Bool.and_eq_false_iff, decide_eq_false_iff_not] at ho; omega
  clear h hp ho
  rcases hd with hd | ⟨hd1, hd2⟩
  · have e1 : (at' < 1) := hd
    go_enter Try.func55, Try.ntmps55
    go_wp2_with (go_at_call 32; (with_reducible refine (H1.out _ (Below.refl _ _)).mono ?_); rintro e w' ⟨rfl, k1, rfl⟩)
    go_ret3
    exact ⟨_, _, rfl, OwnI.nil _ _, OwnI.nil _ _, by repeat' (first | (with_reducible exact Below.refl _ _) | (with_reducible assumption) | (refine below_step (by assumption) ?_ ?_) | (with_reducible refine below_drewN ?_ _) | (with_reducible refine Below.drew ?_) | (with_reducible refine Below.alloc ?_ ?_ _) | (with_reducible refine Below.setCell ?_ ?_ _) | go_size)⟩
  · have e1 : ¬ (at' < 1) := by omega
    go_enter Try.func55, Try.ntmps55
    go_wp2_with (go_at_call 32; (with_reducible refine (H1.out _ (Below.refl _ _)).mono ?_); rintro e w' ⟨rfl, k1, rfl⟩)
    go_ret3
    exact ⟨_, _, rfl, OwnI.nil _ _, OwnI.nil _ _, by repeat' (first | (with_reducible exact Below.refl _ _) | (with_reducible assumption) | (refine below_step (by assumption) ?_ ?_) | (with_reducible refine below_drewN ?_ _) | (with_reducible refine Below.drew ?_) | (with_reducible refine Below.alloc ?_ ?_ _) | (with_reducible refine Below.setCell ?_ ?_ _) | go_size)⟩

set_option maxHeartbeats 2000000 in
theorem refPart_in {xs : List Int} {r : Bool} {k n : Nat} (hp : okP 9 100000 xs = true) (hn : xs.length = n) (hk1 : 1 ≤ k) (hk2 : k + 2 ≤ n) (hr : agreeB (xs.take (k + 1)) (xs.drop k) xs = r) (A : Option Addr) (c : Nat) (hc : n ≤ c) (hm : c ≤ 9223372036854775807) (w : World) (h : RD w w.heap.size A (ints xs)) :
    Calls Try.prog 55 #[.slice A n c, .int .i64 k] w (RetP2 (if r = true then xs.take (k + 1) else []) (if r = true then xs.drop k else []) (if r = true then 0 else 14) w) := by
  have H1 := refCheck_y hp hn A c hc hm h
  have hP := okP_true hp
  have n9 : n ≤ 9 := by have := hP.many; omega
  have hl1 : (xs.take (k + 1)).length = k + 1 := by rw [List.length_take]; omega
  have hl2 : (xs.drop k).length = n - k := by rw [List.length_drop, hn]
  have AG : Hid (∀ W, Below w.heap.size w W → Calls Try.prog 93 #[.slice A n c, .int .i64 k] W fun e w' => e = .returned (.bool r) ∧ Below W.heap.size W w') := Lib.hid (fun W hB => agree_is hP hn hk1 hk2 hr A c hc hm W ((h.keep hB (Nat.le_refl _)).more hB.size))
  obtain ⟨b, off, rfl, hb, hcell⟩ := h.ints (by omega)
  rw [hn] at hcell
  have C1 : Hid (∀ W, Below w.heap.size w W → ∀ j, j < k + 1 → W.cell? ⟨b, off + j, none⟩ = some (.int .i64 (ix (xs.take (k + 1)) j))) := Lib.hid (fun W hB j hj => by rw [ix_take hj]; exact cell_later hB (hcell j (by omega)))
  have C2 : Hid (∀ W, Below w.heap.size w W → ∀ j, j < n - k → W.cell? ⟨b, off + k + j, none⟩ = some (.int .i64 (ix (xs.drop k) j))) := Lib.hid (fun W hB j hj => by rw [ix_drop, Nat.add_assoc]; exact cell_later hB (hcell (k + j) (by omega)))
  have L1 := Lib.hid hl1
  have L2 := Lib.hid hl2
  have e1 : ¬ ((k : Int) < 1) := by omega
  have e2 : (k : Int) < (n : Int) - 1 := by omega
  have w1 : IntKind.i64.wrap ((k : Int) + 1) = (k : Int) + 1 := IntWalk.i64_in _ ⟨by omega, by omega⟩
  have w2 : IntKind.i64.wrap ((n : Int) - 1) = (n : Int) - 1 := IntWalk.i64_in _ ⟨by omega, by omega⟩
  have w3 : ((k : Int) + 1).toNat = k + 1 := by omega
  have w4 : (0 : Int) ≤ (k : Int) + 1 := by omega
  have w5 : (k : Int) + 1 ≤ (c : Int) := by omega
  have w6 : (k : Int) ≤ (n : Int) := by omega
  have w7 : k ≤ n := by omega
  have w8 : k + 1 ≤ c := by omega
  have f4 : ¬ c = k := by omega
  have f5 : ¬ k = c := by omega
  have f6 : ¬ c - k = 0 := by omega
  have f7 : k < c := by omega
  have f8 : k ≤ c := by omega
  clear hp h hcell hl1 hl2 hn hr hP
  cases r
  · show Calls Try.prog 55 #[.slice (some ⟨b, off, none⟩) n c, .int .i64 k] w (RetP2 [] [] 14 w)
    go_enter Try.func55, Try.ntmps55
    go_wp2_with (first | (go_at_call 32; (with_reducible refine (H1.out _ (Below.refl _ _)).mono ?_); rintro e w' ⟨rfl, k1, rfl⟩) | (go_at_call 93; (with_reducible refine (AG.out _ (below_drewN (Below.refl _ _) _)).mono ?_); rintro e w5 ⟨rfl, B5⟩))
    go_ret3
    exact ⟨_, _, rfl, OwnI.nil _ _, OwnI.nil _ _, below_step B5 (below_drewN (Below.refl _ _) _) (Nat.le_refl _)⟩
  · show Calls Try.prog 55 #[.slice (some ⟨b, off, none⟩) n c, .int .i64 k] w (RetP2 (xs.take (k + 1)) (xs.drop k) 0 w)
    go_enter Try.func55, Try.ntmps55
    go_wp2_with (first | (go_at_call 32; (with_reducible refine (H1.out _ (Below.refl _ _)).mono ?_); rintro e w' ⟨rfl, k1, rfl⟩) | (go_at_call 93; (with_reducible refine (AG.out _ (below_drewN (Below.refl _ _) _)).mono ?_); rintro e w5 ⟨rfl, B5⟩))
    have B5' : Below w.heap.size w w5 := below_step B5 (below_drewN (Below.refl _ _) _) (Nat.le_refl _)
    have z5 := B5'.size
    clear B5
    go_region_held3 (fun _ => True) (exact trivial) (first | (refine op_clone rfl (.tmp 25) (.tmp 29) rfl _ rfl b off (k + 1) c (xs.take (k + 1)) L1.out (by omega) (by omega) rfl (C1.out _ (by repeat' (first | (with_reducible exact Below.refl _ _) | (with_reducible assumption) | (refine below_step (by assumption) ?_ ?_) | (with_reducible refine below_drewN ?_ _) | (with_reducible refine Below.drew ?_) | (with_reducible refine Below.alloc ?_ ?_ _) | (with_reducible refine Below.setCell ?_ ?_ _) | go_size))) ?_; intro A1 d1 W1 hd1 hd1' ho1 hb1; have hz1 := hb1.size; (try simp only [World.size_alloc, World.size_drew] at hz1)) | (refine op_clone rfl (.tmp 31) (.tmp 34) rfl _ rfl b (off + k) (n - k) (c - k) (xs.drop k) L2.out (by omega) (by omega) rfl (C2.out _ (by repeat' (first | (with_reducible exact Below.refl _ _) | (with_reducible assumption) | (refine below_step (by assumption) ?_ ?_) | (with_reducible refine below_drewN ?_ _) | (with_reducible refine Below.drew ?_) | (with_reducible refine Below.alloc ?_ ?_ _) | (with_reducible refine Below.setCell ?_ ?_ _) | go_size))) ?_; intro A2 d2 W2 hd2 hd2' ho2 hb2; have hz2 := hb2.size; (try simp only [World.size_alloc, World.size_drew] at hz2)))
    all_goals
      have hk : Below W1.heap.size W1 W2 := by repeat' (first | (with_reducible exact Below.refl _ _) | (with_reducible assumption) | (refine below_step (by assumption) ?_ ?_) | (with_reducible refine below_drewN ?_ _) | (with_reducible refine Below.drew ?_) | (with_reducible refine Below.alloc ?_ ?_ _) | (with_reducible refine Below.setCell ?_ ?_ _) | go_size)
      have H5 := Lib.hid ((ho1.kept hk (Nat.le_refl _)).less (base' := w.heap.size) (by simp only [World.size_alloc, World.size_drew]; omega))
      have H6 := Lib.hid (ho2.less (base' := w.heap.size) (by (try simp only [World.size_alloc, World.size_drew]); omega))
      have H7 : Hid (Below w.heap.size w W2) := Lib.hid (below_step hk (by repeat' (first | (with_reducible exact Below.refl _ _) | (with_reducible assumption) | (refine below_step (by assumption) ?_ ?_) | (with_reducible refine below_drewN ?_ _) | (with_reducible refine Below.drew ?_) | (with_reducible refine Below.alloc ?_ ?_ _) | (with_reducible refine Below.setCell ?_ ?_ _) | go_size)) (by omega))
      clear ho1 ho2 hb1 hb2 hk
      go_wp2
      go_ret3
      exact ⟨_, _, rfl, H5.out, H6.out, H7.out⟩
theorem refPart_any (xs : List Int) (a : Int) (A : Option Addr) (c : Nat) (hc : xs.length ≤ c) (hm : c ≤ 9223372036854775807) (w : World) (h : RD w w.heap.size A (ints xs)) :
    Calls Try.prog 55 #[.slice A xs.length c, .int .i64 a] w (RetP2 (partA xs a) (partB xs a) (partE xs a) w) := by
  unfold partA partB
  cases hp : okP 9 100000 xs with
  | false =>
    have e : partE xs a = 12 := by unfold partE; rw [if_neg (by rw [hp]; simp)]
    rw [e]; exact refPart_e12 hp a A c hc hm w h
  | true =>
    cases hw : within a 1 ((xs.length : Int) - 2) with
    | false =>
      have e : partE xs a = 14 := by unfold partE; rw [if_pos hp, if_neg (by rw [hw]; simp)]
      rw [e]; exact refPart_out hp hw A c hc hm w h
    | true =>
      have h2 := hw
      simp only [within, Bool.and_eq_true, decide_eq_true_eq] at h2
      obtain ⟨k, rfl⟩ := Int.eq_ofNat_of_zero_le (show 0 ≤ a by omega)
      have hin := refPart_in (r := agreeB (xs.take (k + 1)) (xs.drop k) xs) hp rfl (k := k) (by omega) (by omega) rfl A c hc hm w h
      cases hr : agreeB (xs.take (k + 1)) (xs.drop k) xs with
      | false =>
        have e : partE xs (k : Int) = 14 := by unfold partE; rw [if_pos hp, if_neg (by rw [Int.toNat_natCast, hr]; simp)]
        rw [e]; rw [hr] at hin; exact hin
      | true =>
        have e : partE xs (k : Int) = 0 := by unfold partE; rw [if_pos hp, if_pos ⟨hw, by rw [Int.toNat_natCast]; exact hr⟩]
        rw [e]; rw [hr] at hin; exact hin

theorem join_take (xs ys : List Int) {n1 : Nat} (hn1 : xs.length = n1) (h1 : 1 ≤ n1) : (joinL xs ys).take (n1 - 1 + 1) = xs := by
  subst hn1
  rw [show xs.length - 1 + 1 = xs.length by omega, joinL, List.take_left]
theorem join_drop (xs ys : List Int) {n1 : Nat} (hn1 : xs.length = n1) (h1 : 1 ≤ n1) (h2 : 1 ≤ ys.length) (he : ix xs (n1 - 1) = ix ys 0) : (joinL xs ys).drop (n1 - 1) = ys := by
  subst hn1
  refine ix_ext (by rw [List.length_drop, joinL, List.length_append, List.length_drop]; omega) (fun j hj => ?_)
  rw [ix_drop]
  by_cases h0 : j = 0
  · subst h0
    rw [Nat.add_zero, joinL, ix_append_lt (by omega), he]
  · have e : ∀ k, ix (xs ++ ys.drop 1) (xs.length + k) = ix ys (1 + k) := fun k => by
      simp only [ix, List.getD_eq_getElem?_getD]
      rw [List.getElem?_append_right (by omega), List.getElem?_drop, show xs.length + k - xs.length = k by omega]
    rw [joinL, show xs.length - 1 + j = xs.length + (j - 1) by omega, e, show 1 + (j - 1) = j by omega]

theorem refJoin_e1 {xs : List Int} {n1 : Nat} (hn1 : xs.length = n1) (A1 : Option Addr) (c1 : Nat) (A2 : Option Addr) (n2 c2 : Nat) (hc1 : n1 ≤ c1) (hm1 : c1 ≤ 9223372036854775807) (w : World) (h1 : RD w w.heap.size A1 (ints xs)) (p1 : okP 9 100000 xs = false) : Calls Try.prog 57 #[.slice A1 n1 c1, .slice A2 n2 c2] w (RetP1 [] 12 w) := by
  have H1 := refCheck_n p1 hn1 A1 c1 hc1 hm1 h1
  clear h1 hn1
  go_enter Try.func57, Try.ntmps57
  go_wp2_with (go_at_call 32; (with_reducible refine (H1.out _ (Below.refl _ _)).mono ?_); rintro e w' ⟨rfl, k1, rfl⟩)
  go_ret2
  exact ⟨_, rfl, OwnI.nil _ _, by repeat' (first | (with_reducible exact Below.refl _ _) | (with_reducible assumption) | (refine below_step (by assumption) ?_ ?_) | (with_reducible refine below_drewN ?_ _) | (with_reducible refine Below.drew ?_) | (with_reducible refine Below.alloc ?_ ?_ _) | (with_reducible refine Below.setCell ?_ ?_ _) | go_size)⟩

section
variable {xs ys : List Int} {n1 n2 : Nat} (hn1 : xs.length = n1) (hn2 : ys.length = n2) (A1 : Option Addr) (c1 : Nat) (A2 : Option Addr) (c2 : Nat) (hc1 : n1 ≤ c1) (hm1 : c1 ≤ 9223372036854775807) (hc2 : n2 ≤ c2) (hm2 : c2 ≤ 9223372036854775807) (w : World) (h1 : RD w w.heap.size A1 (ints xs)) (h2 : RD w w.heap.size A2 (ints ys))
include hn1 hn2 hc1 hm1 hc2 hm2 h1 h2

theorem refJoin_e2 (p1 : okP 9 100000 xs = true) (p2 : okP 9 100000 ys = false) : Calls Try.prog 57 #[.slice A1 n1 c1, .slice A2 n2 c2] w (RetP1 [] 12 w) := by
  have H1 := refCheck_y p1 hn1 A1 c1 hc1 hm1 h1
  have H2 := refCheck_n p2 hn2 A2 c2 hc2 hm2 h2
  clear h1 h2 hn1 hn2
  go_enter Try.func57, Try.ntmps57
  go_wp2_with (first | (go_at_call 32; (with_reducible refine (H1.out _ (Below.refl _ _)).mono ?_); rintro e w' ⟨rfl, k1, rfl⟩) | (go_at_call 32; (with_reducible refine (H2.out _ (below_drewN (Below.refl _ _) _)).mono ?_); rintro e w' ⟨rfl, k2, rfl⟩))
  go_ret2
  exact ⟨_, rfl, OwnI.nil _ _, by repeat' (first | (with_reducible exact Below.refl _ _) | (with_reducible assumption) | (refine below_step (by assumption) ?_ ?_) | (with_reducible refine below_drewN ?_ _) | (with_reducible refine Below.drew ?_) | (with_reducible refine Below.alloc ?_ ?_ _) | (with_reducible refine Below.setCell ?_ ?_ _) | go_size)⟩
set_option maxHeartbeats 1000000 in
theorem refJoin_ne (p1 : okP 9 100000 xs = true) (p2 : okP 9 100000 ys = true) (hne : ix xs (n1 - 1) ≠ ix ys 0) : Calls Try.prog 57 #[.slice A1 n1 c1, .slice A2 n2 c2] w (RetP1 [] 14 w) := by
  have H1 := refCheck_y p1 hn1 A1 c1 hc1 hm1 h1
  have H2 := refCheck_y p2 hn2 A2 c2 hc2 hm2 h2
  have t1 := (okP_true p1).two
  have t2 := (okP_true p2).two
  rw [hn1] at t1
  rw [hn2] at t2
  obtain ⟨b1, o1, rfl, hb1, q1⟩ := h1.ints (by omega)
  obtain ⟨b2, o2, rfl, hb2, q2⟩ := h2.ints (by omega)
  have x1 : w.cell? ⟨b1, o1 + (n1 - 1), none⟩ = some (.int .i64 (ix xs (n1 - 1))) := q1 _ (by omega)
  have x2 : w.cell? ⟨b2, o2, none⟩ = some (.int .i64 (ix ys 0)) := q2 0 (by omega)
  have hd : (ix xs (n1 - 1) != ix ys 0) = true := ibne_true hne
  have w2 : IntKind.i64.wrap ((n1 : Int) - 1) = (n1 : Int) - 1 := IntWalk.i64_in _ ⟨by omega, by omega⟩
  have w3 : 0 ≤ (n1 : Int) - 1 := by omega
  have w4 : (n1 : Int) - 1 < (n1 : Int) := by omega
  have w5 : 1 ≤ (n1 : Int) := by omega
  have w6 : ((n1 : Int) - 1).toNat = n1 - 1 := by omega
  have w7 : 0 < n2 := by omega
  have w8 : (0 : Int) < (n2 : Int) := by omega
  clear h1 h2 hn1 hn2 q1 q2 hne
  go_enter Try.func57, Try.ntmps57
  go_wp2_with (first | (go_at_call 32; (with_reducible refine (H1.out _ (Below.refl _ _)).mono ?_); rintro e w' ⟨rfl, k1, rfl⟩) | (go_at_call 32; (with_reducible refine (H2.out _ (below_drewN (Below.refl _ _) _)).mono ?_); rintro e w' ⟨rfl, k2, rfl⟩))
  go_quiet (fail)
  go_wp2
  go_ret2
  exact ⟨_, rfl, OwnI.nil _ _, by repeat' (first | (with_reducible exact Below.refl _ _) | (with_reducible assumption) | (refine below_step (by assumption) ?_ ?_) | (with_reducible refine below_drewN ?_ _) | (with_reducible refine Below.drew ?_) | (with_reducible refine Below.alloc ?_ ?_ _) | (with_reducible refine Below.setCell ?_ ?_ _) | go_size)⟩

set_option maxHeartbeats 4000000 in
theorem refJoin_in {r1 r2 : Bool} (p1 : okP 9 100000 xs = true) (p2 : okP 9 100000 ys = true) (he : ix xs (n1 - 1) = ix ys 0) (p3 : okP 9 100000 (joinL xs ys) = r1) (p4 : agreeB xs ys (joinL xs ys) = r2) :
    Calls Try.prog 57 #[.slice A1 n1 c1, .slice A2 n2 c2] w (RetP1 (if r1 = true ∧ r2 = true then joinL xs ys else []) (if r1 = true then (if r2 = true then 0 else 14) else 12) w) := by
  have H1 := refCheck_y p1 hn1 A1 c1 hc1 hm1 h1
  have H2 := refCheck_y p2 hn2 A2 c2 hc2 hm2 h2
  have hP1 := okP_true p1
  have hP2 := okP_true p2
  have t1 := hP1.two
  have t2 := hP2.two
  have u1 := hP1.many
  have u2 := hP2.many
  rw [hn1] at t1 u1
  rw [hn2] at t2 u2
  have hld : (ys.drop 1).length = n2 - 1 := by rw [List.length_drop, hn2]
  have hlj : (joinL xs ys).length = n1 + (n2 - 1) := by rw [joinL, List.length_append, hn1, hld]
  obtain ⟨b1, o1, rfl, hb1, q1⟩ := h1.ints (by omega)
  obtain ⟨b2, o2, rfl, hb2, q2⟩ := h2.ints (by omega)
  rw [hn1] at q1
  rw [hn2] at q2
  have x1 : w.cell? ⟨b1, o1 + (n1 - 1), none⟩ = some (.int .i64 (ix xs (n1 - 1))) := q1 _ (by omega)
  have x2 : w.cell? ⟨b2, o2, none⟩ = some (.int .i64 (ix ys 0)) := q2 0 (by omega)
  rw [he] at x1
  have HA : Hid (∀ (W : World) A c, r1 = true → n1 + (n2 - 1) ≤ c → c ≤ 9223372036854775807 → RD W W.heap.size A (ints (joinL xs ys)) → Calls Try.prog 93 #[.slice A (n1 + (n2 - 1)) c, .int .i64 ((n1 - 1 : Nat) : Int)] W fun e w' => e = .returned (.bool r2) ∧ Below W.heap.size W w') :=
    Lib.hid (fun W A c hr h1 h2 h3 => agree_is (okP_true (p3.trans hr)) hlj (by omega) (by omega) (by rw [join_take xs ys hn1 (by omega), join_drop xs ys hn1 (by omega) (by omega) he]; exact p4) A c h1 h2 W h3)
  have HP : Hid (∀ (W : World) A c, n1 + (n2 - 1) ≤ c → c ≤ 9223372036854775807 → RD W W.heap.size A (ints (joinL xs ys)) → Calls Try.prog 32 #[.slice A (n1 + (n2 - 1)) c] W fun e w' => e = .returned (.int .i64 (if r1 = true then 0 else 12)) ∧ ∃ k, w' = W.drewN k) := Lib.hid (fun W A c h1 h2 h3 => by
    cases hr : r1 with
    | true => exact (refCheck_y (p3.trans hr) hlj A c h1 h2 h3).out W (Below.refl _ _)
    | false => exact (refCheck_n (p3.trans hr) hlj A c h1 h2 h3).out W (Below.refl _ _))
  have C1 : Hid (∀ W, Below w.heap.size w W → ∀ j, j < n1 → W.cell? ⟨b1, o1 + j, none⟩ = some (.int .i64 (ix xs j))) := Lib.hid (fun W hB j hj => cell_later hB (q1 j hj))
  have C2 : Hid (∀ W, Below w.heap.size w W → ∀ j, j < n2 - 1 → W.cell? ⟨b2, o2 + 1 + j, none⟩ = some (.int .i64 (ix (ys.drop 1) j))) := Lib.hid (fun W hB j hj => by rw [ix_drop, Nat.add_assoc]; exact cell_later hB (q2 (1 + j) (by omega)))
  have HLJ := Lib.hid hlj
  have L1 := Lib.hid hn1
  have L2 := Lib.hid hld
  have w2 : IntKind.i64.wrap ((n1 : Int) - 1) = ((n1 - 1 : Nat) : Int) := by rw [IntWalk.i64_in _ ⟨by omega, by omega⟩]; omega
  have w3 : 0 ≤ ((n1 - 1 : Nat) : Int) := by omega
  have w4 : ((n1 - 1 : Nat) : Int) < (n1 : Int) := by omega
  have w5 : 1 ≤ (n1 : Int) := by omega
  have w7 : 0 < n2 := by omega
  have w8 : (0 : Int) < (n2 : Int) := by omega
  have w9 : 1 ≤ n2 := by omega
  have w10 : (1 : Int) ≤ (n2 : Int) := by omega
  have w11 : n1 - 1 < n1 := by omega
  have w12 : ¬ c2 = 1 := by omega
  have w13 : ¬ 1 = c2 := by omega
  have w14 : ¬ c2 - 1 = 0 := by omega
  have w15 : 1 < c2 := by omega
  have w16 : 1 ≤ c2 := by omega
  clear h1 h2 hn1 hn2 q1 q2 he p1 p2 p3 p4 hP1 hP2 hld hlj
  cases r1
  · show Calls Try.prog 57 #[.slice (some ⟨b1, o1, none⟩) n1 c1, .slice (some ⟨b2, o2, none⟩) n2 c2] w (RetP1 [] 12 w)
    go_enter Try.func57, Try.ntmps57
    go_wp2_with (first | (go_at_call 32; (with_reducible refine (H1.out _ (Below.refl _ _)).mono ?_); rintro e w' ⟨rfl, k1, rfl⟩) | (go_at_call 32; (with_reducible refine (H2.out _ (below_drewN (Below.refl _ _) _)).mono ?_); rintro e w' ⟨rfl, k2, rfl⟩))
    go_quiet (fail)
    go_upto_region 5 with fail
    go_region_held3 (fun _ => True) (exact trivial) (first | (refine op_clone rfl (.tmp 25) (.tmp 26) rfl _ rfl b1 o1 n1 c1 xs L1.out (by omega) (by omega) rfl (C1.out _ (by repeat' (first | (with_reducible exact Below.refl _ _) | (with_reducible assumption) | (refine below_step (by assumption) ?_ ?_) | (with_reducible refine below_drewN ?_ _) | (with_reducible refine Below.drew ?_) | (with_reducible refine Below.alloc ?_ ?_ _) | (with_reducible refine Below.setCell ?_ ?_ _) | go_size))) ?_; intro A3 d3 W3 hd3 hd3' ho3 hb3; have hB3 : Below w.heap.size w W3 := (by repeat' (first | (with_reducible exact Below.refl _ _) | (with_reducible assumption) | (refine below_step (by assumption) ?_ ?_) | (with_reducible refine below_drewN ?_ _) | (with_reducible refine Below.drew ?_) | (with_reducible refine Below.alloc ?_ ?_ _) | (with_reducible refine Below.setCell ?_ ?_ _) | go_size)); have hz3 := hb3.size) | (refine op_appN rfl (.tmp 27) (.tmp 29) rfl _ _ xs rfl ho3 b2 (o2 + 1) (n2 - 1) (c2 - 1) (n1 + (n2 - 1)) (ys.drop 1) L2.out HLJ.out rfl (C2.out _ hB3) (by omega) hz3 ?_; intro A4 d4 W4 hd4 hd4' ho4 hg4))
    have hB4 : Hid (Below w.heap.size w W4) := Lib.hid (hB3.grown hg4 hB3.size (fun k e => Nat.le_trans (by simp only [World.size_alloc, World.size_drew, hsz_drewN]; omega) (ho3.at_block e).1))
    have H4 : Hid (OwnI W4 w.heap.size (.slice A4 (n1 + (n2 - 1)) d4) (joinL xs ys)) := Lib.hid (ho4.less (by simp only [World.size_alloc, World.size_drew, hsz_drewN]; omega))
    have R4 := Lib.hid H4.out.rd
    clear ho3 hb3 hB3 hz3 ho4 hg4 x1 x2 C1 C2
    go_wp2_with (first | (go_at_call 32; (with_reducible refine (HP.out _ _ _ hd4 hd4' R4.out).mono ?_); rintro e w' ⟨rfl, k9, rfl⟩) | (go_at_call 93; (with_reducible refine (HA.out _ _ _ (by first | rfl | trivial) hd4 hd4' ((R4.out.keep (below_drewN (Below.refl _ _) _) (Nat.le_refl _)).more (Nat.le_refl _))).mono ?_); rintro e V2 ⟨rfl, hb2⟩))
    go_ret2
    exact ⟨_, rfl, OwnI.nil _ _, below_drewN hB4.out _⟩
  · cases r2
    · show Calls Try.prog 57 #[.slice (some ⟨b1, o1, none⟩) n1 c1, .slice (some ⟨b2, o2, none⟩) n2 c2] w (RetP1 [] 14 w)
      go_enter Try.func57, Try.ntmps57
      go_wp2_with (first | (go_at_call 32; (with_reducible refine (H1.out _ (Below.refl _ _)).mono ?_); rintro e w' ⟨rfl, k1, rfl⟩) | (go_at_call 32; (with_reducible refine (H2.out _ (below_drewN (Below.refl _ _) _)).mono ?_); rintro e w' ⟨rfl, k2, rfl⟩))
      go_quiet (fail)
      go_upto_region 5 with fail
      go_region_held3 (fun _ => True) (exact trivial) (first | (refine op_clone rfl (.tmp 25) (.tmp 26) rfl _ rfl b1 o1 n1 c1 xs L1.out (by omega) (by omega) rfl (C1.out _ (by repeat' (first | (with_reducible exact Below.refl _ _) | (with_reducible assumption) | (refine below_step (by assumption) ?_ ?_) | (with_reducible refine below_drewN ?_ _) | (with_reducible refine Below.drew ?_) | (with_reducible refine Below.alloc ?_ ?_ _) | (with_reducible refine Below.setCell ?_ ?_ _) | go_size))) ?_; intro A3 d3 W3 hd3 hd3' ho3 hb3; have hB3 : Below w.heap.size w W3 := (by repeat' (first | (with_reducible exact Below.refl _ _) | (with_reducible assumption) | (refine below_step (by assumption) ?_ ?_) | (with_reducible refine below_drewN ?_ _) | (with_reducible refine Below.drew ?_) | (with_reducible refine Below.alloc ?_ ?_ _) | (with_reducible refine Below.setCell ?_ ?_ _) | go_size)); have hz3 := hb3.size) | (refine op_appN rfl (.tmp 27) (.tmp 29) rfl _ _ xs rfl ho3 b2 (o2 + 1) (n2 - 1) (c2 - 1) (n1 + (n2 - 1)) (ys.drop 1) L2.out HLJ.out rfl (C2.out _ hB3) (by omega) hz3 ?_; intro A4 d4 W4 hd4 hd4' ho4 hg4))
      have hB4 : Hid (Below w.heap.size w W4) := Lib.hid (hB3.grown hg4 hB3.size (fun k e => Nat.le_trans (by simp only [World.size_alloc, World.size_drew, hsz_drewN]; omega) (ho3.at_block e).1))
      have H4 : Hid (OwnI W4 w.heap.size (.slice A4 (n1 + (n2 - 1)) d4) (joinL xs ys)) := Lib.hid (ho4.less (by simp only [World.size_alloc, World.size_drew, hsz_drewN]; omega))
      have R4 := Lib.hid H4.out.rd
      clear ho3 hb3 hB3 hz3 ho4 hg4 x1 x2 C1 C2
      go_wp2_with (first | (go_at_call 32; (with_reducible refine (HP.out _ _ _ hd4 hd4' R4.out).mono ?_); rintro e w' ⟨rfl, k9, rfl⟩) | (go_at_call 93; (with_reducible refine (HA.out _ _ _ (by first | rfl | trivial) hd4 hd4' ((R4.out.keep (below_drewN (Below.refl _ _) _) (Nat.le_refl _)).more (Nat.le_refl _))).mono ?_); rintro e V2 ⟨rfl, hb2⟩))
      go_ret2
      exact ⟨_, rfl, OwnI.nil _ _, below_step hb2 (below_drewN hB4.out _) hB4.out.size⟩
    · show Calls Try.prog 57 #[.slice (some ⟨b1, o1, none⟩) n1 c1, .slice (some ⟨b2, o2, none⟩) n2 c2] w (RetP1 (joinL xs ys) 0 w)
      go_enter Try.func57, Try.ntmps57
      go_wp2_with (first | (go_at_call 32; (with_reducible refine (H1.out _ (Below.refl _ _)).mono ?_); rintro e w' ⟨rfl, k1, rfl⟩) | (go_at_call 32; (with_reducible refine (H2.out _ (below_drewN (Below.refl _ _) _)).mono ?_); rintro e w' ⟨rfl, k2, rfl⟩))
      go_quiet (fail)
      go_upto_region 5 with fail
      go_region_held3 (fun _ => True) (exact trivial) (first | (refine op_clone rfl (.tmp 25) (.tmp 26) rfl _ rfl b1 o1 n1 c1 xs L1.out (by omega) (by omega) rfl (C1.out _ (by repeat' (first | (with_reducible exact Below.refl _ _) | (with_reducible assumption) | (refine below_step (by assumption) ?_ ?_) | (with_reducible refine below_drewN ?_ _) | (with_reducible refine Below.drew ?_) | (with_reducible refine Below.alloc ?_ ?_ _) | (with_reducible refine Below.setCell ?_ ?_ _) | go_size))) ?_; intro A3 d3 W3 hd3 hd3' ho3 hb3; have hB3 : Below w.heap.size w W3 := (by repeat' (first | (with_reducible exact Below.refl _ _) | (with_reducible assumption) | (refine below_step (by assumption) ?_ ?_) | (with_reducible refine below_drewN ?_ _) | (with_reducible refine Below.drew ?_) | (with_reducible refine Below.alloc ?_ ?_ _) | (with_reducible refine Below.setCell ?_ ?_ _) | go_size)); have hz3 := hb3.size) | (refine op_appN rfl (.tmp 27) (.tmp 29) rfl _ _ xs rfl ho3 b2 (o2 + 1) (n2 - 1) (c2 - 1) (n1 + (n2 - 1)) (ys.drop 1) L2.out HLJ.out rfl (C2.out _ hB3) (by omega) hz3 ?_; intro A4 d4 W4 hd4 hd4' ho4 hg4))
      have hB4 : Hid (Below w.heap.size w W4) := Lib.hid (hB3.grown hg4 hB3.size (fun k e => Nat.le_trans (by simp only [World.size_alloc, World.size_drew, hsz_drewN]; omega) (ho3.at_block e).1))
      have H4 : Hid (OwnI W4 w.heap.size (.slice A4 (n1 + (n2 - 1)) d4) (joinL xs ys)) := Lib.hid (ho4.less (by simp only [World.size_alloc, World.size_drew, hsz_drewN]; omega))
      have R4 := Lib.hid H4.out.rd
      clear ho3 hb3 hB3 hz3 ho4 hg4 x1 x2 C1 C2
      go_wp2_with (first | (go_at_call 32; (with_reducible refine (HP.out _ _ _ hd4 hd4' R4.out).mono ?_); rintro e w' ⟨rfl, k9, rfl⟩) | (go_at_call 93; (with_reducible refine (HA.out _ _ _ (by first | rfl | trivial) hd4 hd4' ((R4.out.keep (below_drewN (Below.refl _ _) _) (Nat.le_refl _)).more (Nat.le_refl _))).mono ?_); rintro e V2 ⟨rfl, hb2⟩))
      go_ret2
      exact ⟨_, rfl, H4.out.kept (below_step hb2 (below_drewN (Below.refl _ _) _) (Nat.le_refl _)) (Nat.le_refl _), below_step hb2 (below_drewN hB4.out _) hB4.out.size⟩

theorem refJoin_any : Calls Try.prog 57 #[.slice A1 n1 c1, .slice A2 n2 c2] w (RetP1 (joinV xs ys) (joinE xs ys) w) := by
  unfold joinV
  cases p1 : okP 9 100000 xs with
  | false =>
    have e : joinE xs ys = 12 := by unfold joinE; rw [if_neg (by rw [p1]; simp)]
    rw [e]; exact refJoin_e1 hn1 A1 c1 A2 n2 c2 hc1 hm1 w h1 p1
  | true =>
    cases p2 : okP 9 100000 ys with
    | false =>
      have e : joinE xs ys = 12 := by unfold joinE; rw [if_neg (by rw [p2]; simp)]
      rw [e]; exact refJoin_e2 hn1 hn2 A1 c1 A2 c2 hc1 hm1 hc2 hm2 w h1 h2 p1 p2
    | true =>
      by_cases he : ix xs (n1 - 1) = ix ys 0
      · have hin := refJoin_in hn1 hn2 A1 c1 A2 c2 hc1 hm1 hc2 hm2 w h1 h2 p1 p2 he rfl rfl
        cases p3 : okP 9 100000 (joinL xs ys) with
        | false =>
          have e : joinE xs ys = 12 := by unfold joinE; rw [if_pos ⟨p1, p2⟩, hn1, if_pos he, if_neg (by rw [p3]; simp)]
          rw [e]; rw [p3] at hin; exact hin
        | true =>
          cases p4 : agreeB xs ys (joinL xs ys) with
          | false =>
            have e : joinE xs ys = 14 := by unfold joinE; rw [if_pos ⟨p1, p2⟩, hn1, if_pos he, if_pos p3, if_neg (by rw [p4]; simp)]
            rw [e]; rw [p3, p4] at hin; exact hin
          | true =>
            have e : joinE xs ys = 0 := by unfold joinE; rw [if_pos ⟨p1, p2⟩, hn1, if_pos he, if_pos p3, if_pos p4]
            rw [e]; rw [p3, p4] at hin; exact hin
      · have e : joinE xs ys = 14 := by unfold joinE; rw [if_pos ⟨p1, p2⟩, hn1, if_neg he]
        rw [e]; exact refJoin_ne hn1 hn2 A1 c1 A2 c2 hc1 hm1 hc2 hm2 w h1 h2 p1 p2 he
end

end Go.Proofs.Ytdlmdaononclgaa
