import Derived.Test.YtdlmdaononclgaaDoorMB
import Derived.Test.YtdlmdaononclgaaDoorMA
import Derived.Lib.ItoaLen
import Derived.Laws.BytesArg
import Derived.Laws.BytesString
import Derived.Laws.Concat
import Derived.Laws.IdiomStrings
/- the reference's digits and Text: the decimal text of a number. -/
namespace Go.Proofs.YtdlmdaononclgaaDoor
open Go.RowKit
set_option linter.unusedVariables false
set_option linter.unusedSimpArgs false

/-- string([]byte{x}) of a fresh row. -/
theorem conv_one (W : World) (g : Nat) (hg : g = W.heap.size) (x : Int) (n : Nat) (hn : x = n) (hx : n < 256) : (convert 46 9 (.slice (some ⟨g, 0, none⟩) 1 1)).run Tryd.prog (W.alloc (.cells #[.int .u8 x] 5)) = .ok (.string ⟨[UInt8.ofNat n].toArray⟩) (W.alloc (.cells #[.int .u8 x] 5)) := by
  subst hg hn
  have := run_convert_bytes_back (P := Tryd.prog) (W.alloc (.cells #[.int .u8 n] 5)) 46 9 5 ⟨W.heap.size, 0, none⟩ 1 [UInt8.ofNat n] Tryd.underlying46 Tryd.underlying5 Tryd.underlying9 (by
    intro j hj
    have h0 : j = 0 := by simp at hj; omega
    subst h0
    simp only [List.getElem_cons_zero]
    rw [UInt8.toNat_ofNat', Nat.mod_eq_of_lt hx]
    rw [show (⟨W.heap.size, 0, none⟩ : Addr).add 0 = ⟨W.heap.size, 0, none⟩ from rfl]
    rw [cell_of_row _ W.heap.size _ _ _ _ (heap_alloc_new W _)]
    rfl)
  exact this

theorem dd_step (u : Nat) (h : ¬ u < 10) : Lib.decDigits u = Lib.decDigits (u / 10) ++ [UInt8.ofNat (48 + u % 10)] := by
  rw [Lib.decDigits, dif_neg h]

theorem str_add (w : World) (x y : List UInt8) (t : TypeId) (hx : x.length ≤ 1000000000000) (hy : y.length ≤ 1000000000000) : (binOp .add t (.string ⟨x.toArray⟩) (.string ⟨y.toArray⟩)).run Tryd.prog w = .ok (.string ⟨(x ++ y).toArray⟩) w := by
  rw [binOp_string_add, run_string_add_sum w _ _ (by simp [ByteArray.size]; omega), ByteArray.mk_append_mk]

set_option maxHeartbeats 1000000 in
set_option maxRecDepth 20000 in
theorem digits_is (n : Nat) (hn : n < 18446744073709551616) (w : World) :
    Calls Tryd.prog 65 #[.int .u64 n] w fun e w' => e = .returned (.string ⟨(Lib.decDigits n).toArray⟩) ∧ Below w.heap.size w w' := by
  have hlen : (Lib.decDigits n).length ≤ 20 := by rw [Lib.decDigits_length]; exact Lib.nDigits_le20 n hn
  go_enter Tryd.func65, Tryd.ntmps65
  go_wp2
  go_loopw [0, 3] (fun x v wr => ∃ (m : Nat) (s : List UInt8), x = .int .u64 m ∧ v = .string ⟨s.toArray⟩ ∧ Lib.decDigits n = Lib.decDigits m ++ s ∧ m < 18446744073709551616 ∧ Below w.heap.size w wr) (fun x _ _ => (intOf x).toNat)
  case atStart => exact ⟨n, [], rfl, rfl, by simp, hn, Below.refl _ _⟩
  case round =>
    obtain ⟨m, s, rfl, rfl, hs, hm, hB⟩ := hrel
    have hsl : s.length ≤ 20 := by rw [hs, List.length_append] at hlen; omega
    by_cases hm9 : m < 10
    · have k1 := fun W g hg => conv_one W g hg (48 + m) (48 + m) (by omega) (by omega)
      have k2 := fun W => str_add W [UInt8.ofNat (48 + m)] s 9 (by simp) (by omega)
      go_wp2
      go_ret
      refine ⟨?_, ?_⟩
      · rw [hs, Lib.decDigits_one hm9, ← ByteArray.mk_append_mk]
        simp
      · exact below_step (Below.alloc (Below.refl _ _) (Nat.le_refl _) _) hB hB.size
    · have k1 := fun W g hg => conv_one W g hg (48 + (m : Int) % 10) (48 + m % 10) (by omega) (by omega)
      have k2 := fun W => str_add W [UInt8.ofNat (48 + m % 10)] s 9 (by simp) (by omega)
      have k3 : ¬ ((m : Int) ≤ 9) := by omega
      have k4 : (9 : Int) < m := by omega
      go_wp2
      refine ⟨⟨m / 10, UInt8.ofNat (48 + m % 10) :: s, by simp, ?_, ?_, by omega, ?_⟩, ?_⟩
      · have e := ByteArray.mk_append_mk [UInt8.ofNat (48 + m % 10)] s
        simp only [List.singleton_append] at e
        rw [← e]
        simp
      · rw [hs, dd_step m hm9]; simp
      · exact below_step (Below.alloc (Below.refl _ _) (Nat.le_refl _) _) hB hB.size
      · simp [intOf]; omega

theorem refText_is (n : Int) (h0 : -9223372036854775808 ≤ n) (h1 : n ≤ 9223372036854775807) (w : World) :
    Calls Tryd.prog 49 #[.int .i64 n] w fun e w' => e = .returned (.string ⟨(Lib.itoa n).toArray⟩) ∧ Below w.heap.size w w' := by
  have S : Hid (∀ W, Calls Tryd.prog 66 #[.int .i64 n] W fun e w' => e = .returned (.int .u64 (n.natAbs : Int)) ∧ W = w') := Lib.hid (fun W => refsize_any n h0 h1 W)
  have D : Hid (∀ W, Calls Tryd.prog 65 #[.int .u64 (n.natAbs : Int)] W fun e w' => e = .returned (.string ⟨(Lib.decDigits n.natAbs).toArray⟩) ∧ Below W.heap.size W w') := Lib.hid (fun W => digits_is n.natAbs (by omega) W)
  have hl : (Lib.decDigits n.natAbs).length ≤ 20 := by rw [Lib.decDigits_length]; exact Lib.nDigits_le20 _ (by omega)
  obtain ⟨d, hd⟩ : ∃ d, Lib.decDigits n.natAbs = d := ⟨_, rfl⟩
  obtain ⟨m, hm⟩ : ∃ m : Int, (n.natAbs : Int) = m := ⟨_, rfl⟩
  rw [hm] at S
  rw [hd, hm] at D
  rw [hd] at hl
  have k2 := fun W => str_add W [45] d 9 (by simp) (by omega)
  by_cases hn : n < 0
  · have e : Lib.itoa n = 45 :: d := by unfold Lib.itoa; rw [if_pos hn, hd]
    rw [e]
    clear e hd hm
    go_enter Tryd.func49, Tryd.ntmps49
    go_wp2_with (first | (go_at_call 66; (with_reducible refine (S.out _).mono ?_); rintro e w' ⟨rfl, rfl⟩) | (go_at_call 65; (with_reducible refine (D.out _).mono ?_); rintro e w1 ⟨rfl, hb1⟩))
    go_ret
    refine ⟨?_, hb1⟩
    have e := ByteArray.mk_append_mk [45] d
    simp only [List.singleton_append] at e
    rw [← e]
    rfl
  · have e : Lib.itoa n = d := by unfold Lib.itoa; rw [if_neg hn, ← hd]; congr 1; omega
    rw [e]
    clear e hd hm
    go_enter Tryd.func49, Tryd.ntmps49
    go_wp2_with (first | (go_at_call 66; (with_reducible refine (S.out _).mono ?_); rintro e w' ⟨rfl, rfl⟩) | (go_at_call 65; (with_reducible refine (D.out _).mono ?_); rintro e w1 ⟨rfl, hb1⟩))
    go_ret
    exact ⟨rfl, hb1⟩

/-- one line of a table: a word, its numbers, an end of line. -/
def numT (n : Int) : List UInt8 := 32 :: Lib.itoa n
def rowT (word : List UInt8) (l : List Int) : List UInt8 := word ++ l.flatMap numT ++ [10]
def In64 (l : List Int) : Prop := ∀ k, k < l.length → -9223372036854775808 ≤ ix l k ∧ ix l k ≤ 9223372036854775807
theorem numT_len (n : Int) (h0 : -9223372036854775808 ≤ n) (h1 : n ≤ 9223372036854775807) : (numT n).length ≤ 22 := by
  have := Lib.itoa_length_le n h0 h1
  simp [numT]; omega
theorem take_num (l : List Int) (k : Nat) (hk : k < l.length) : (l.take (k + 1)).flatMap numT = (l.take k).flatMap numT ++ numT (ix l k) := by
  have e : l.take (k + 1) = l.take k ++ [ix l k] := by
    rw [List.take_add_one, List.getElem?_eq_getElem hk]
    simp [ix, List.getD, List.getElem?_eq_getElem hk]
  rw [e, List.flatMap_append]
  simp
theorem take_num_len (l : List Int) (h : In64 l) (k : Nat) (hk : k ≤ l.length) : ((l.take k).flatMap numT).length ≤ 22 * k := by
  induction k with
  | zero => simp
  | succ k ih =>
    have := ih (by omega)
    have h2 := numT_len _ (h k (by omega)).1 (h k (by omega)).2
    rw [take_num l k (by omega), List.length_append]
    omega

set_option maxHeartbeats 1000000 in
theorem refrow_is (word : List UInt8) (hwd : word.length ≤ 100) (l : List Int) (h64 : In64 l) {n : Nat} (hn : l.length = n) (hn1 : n ≤ 1000) (A : Option Addr) (c : Nat) (w : World) (h : RD w w.heap.size A (ints l)) :
    Calls Tryd.prog 29 #[.string ⟨word.toArray⟩, .slice A n c] w fun e w' => e = .returned (.string ⟨(rowT word l).toArray⟩) ∧ Below w.heap.size w w' := by
  have H := Lib.hid h
  have H64 := Lib.hid h64
  have HN := Lib.hid hn
  clear h h64 hn
  go_enter Tryd.func29, Tryd.ntmps29
  go_wp2
  go_loopw [5, 6] (fun v x wr => ∃ k : Nat, k ≤ n ∧ x = .int .i64 k ∧ v = .string ⟨(word ++ (l.take k).flatMap numT).toArray⟩ ∧ Below w.heap.size w wr) (fun _ x _ => n - (intOf x).toNat)
  case atStart => exact ⟨0, by omega, rfl, by simp, Below.refl _ _⟩
  case round =>
    obtain ⟨k, hk, rfl, rfl, hB⟩ := hrel
    have HB := Lib.hid hB
    clear hB
    have hlen := take_num_len l H64.out k (by have := HN.out; omega)
    by_cases hk' : k < n
    · obtain ⟨b, off, rfl, hb, hcell⟩ := H.out.ints (by have := HN.out; omega)
      have y0 := cell_later HB.out (hcell k (by have := HN.out; omega))
      obtain ⟨b0, b1⟩ := H64.out k (by have := HN.out; omega)
      have hnum := numT_len _ b0 b1
      have hst := take_num l k (by have := HN.out; omega)
      obtain ⟨x, hx⟩ : ∃ x, ix l k = x := ⟨_, rfl⟩
      rw [hx] at y0 b0 b1 hnum hst
      unfold numT at hnum
      have T : Hid (∀ W, Calls Tryd.prog 49 #[.int .i64 x] W fun e w' => e = .returned (.string ⟨(Lib.itoa x).toArray⟩) ∧ Below W.heap.size W w') := Lib.hid (fun W => refText_is x b0 b1 W)
      obtain ⟨d, hd⟩ : ∃ d, Lib.itoa x = d := ⟨_, rfl⟩
      rw [hd] at T hnum
      simp only [List.length_cons] at hnum
      obtain ⟨s, hs⟩ : ∃ s, word ++ (l.take k).flatMap numT = s := ⟨_, rfl⟩
      have hsl : s.length ≤ 22100 := by rw [← hs, List.length_append]; omega
      rw [hs]
      have HS := Lib.hid hs
      have HX := Lib.hid hst
      have HD := Lib.hid hd
      clear hcell hx hs hst hd hlen b0 b1
      go_wp2_with (go_at_call 49; (with_reducible refine (T.out _).mono ?_); rintro e w1 ⟨rfl, hb1⟩)
      refine ⟨⟨k + 1, by omega, by go_num, ?_, below_step hb1 HB.out HB.out.size⟩, ?_⟩
      · show Value.string (ByteArray.mk s.toArray ++ (ByteArray.mk [32].toArray ++ ByteArray.mk d.toArray)) = _
        rw [ByteArray.mk_append_mk, ByteArray.mk_append_mk, HX.out, ← HS.out, ← HD.out]
        simp [numT]
      · simp [intOf]; omega
    · obtain rfl : k = n := by omega
      have e : (l.take k) = l := by rw [← HN.out, List.take_length]
      rw [e] at hlen ⊢
      obtain ⟨s, hs⟩ : ∃ s, word ++ l.flatMap numT = s := ⟨_, rfl⟩
      have hsl : s.length ≤ 22100 := by rw [← hs, List.length_append]; omega
      have e2 : rowT word l = s ++ [10] := by unfold rowT; rw [hs]
      rw [hs]
      clear hs e hlen
      go_wp2
      go_ret
      refine ⟨?_, HB.out⟩
      rw [e2, ← ByteArray.mk_append_mk]
      rfl
