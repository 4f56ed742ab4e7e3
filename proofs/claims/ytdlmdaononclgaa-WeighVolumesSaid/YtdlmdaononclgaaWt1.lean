import Derived.Test.YtdlmdaononclgaaGrp
/- The maker of the iterator; the accumulator's add; slices.Reverse at three numbers. -/
namespace Go.Proofs.Ytdlmdaononclgaa
open Go.RowKit
set_option linter.unusedVariables false
set_option linter.unusedSimpArgs false

theorem groups_any (A : Option Addr) (n c : Nat) (w : World) :
    Calls Try.prog 73 #[.slice A n c] w fun e w' => e = .returned (.func (.func 108) #[] #[.pointer (some ⟨w.heap.size, 0, none⟩)]) ∧ w' = w.alloc (.cells #[.slice A n c] 22) := by
  have hmf : ∀ (fn : Fn) (first cap : Array Value) (w : World), (Instr.makeFunc fn first cap).run Try.prog w = .ok (.func fn first cap) w := fun _ _ _ _ => rfl
  go_enter Try.func73, Try.ntmps73
  go_wp2
  go_ret
  exact ⟨rfl, rfl⟩

/-- block g is just the numbers xs, none frozen. -/
def Arr (w : World) (g : Nat) (xs : List Int) : Prop := w.heap[g]? = some (.cells (ints xs).toArray 3 (0, 0))
theorem Arr.lt {w : World} {g : Nat} {xs : List Int} (h : Arr w g xs) : g < w.heap.size := (Array.getElem?_eq_some_iff.1 h).1
theorem Arr.cell {w : World} {g : Nat} {xs : List Int} (h : Arr w g xs) {j : Nat} (hj : j < xs.length) : w.cell? ⟨g, j, none⟩ = some (.int .i64 (ix xs j)) := by
  rw [cell_of_row w g j _ _ _ h]
  rw [List.getElem?_toArray, ints_get, List.getElem?_eq_getElem hj]
  simp [ix, List.getD, List.getElem?_eq_getElem hj]
theorem Arr.free {w : World} {g : Nat} {xs : List Int} (h : Arr w g xs) (j : Nat) : w.frozen? ⟨g, j, none⟩ = false := by
  unfold Arr at h
  simp [World.frozen?, h]
theorem Arr.set {w : World} {g : Nat} {xs : List Int} (h : Arr w g xs) (j : Nat) (v : Int) : Arr (w.setCell ⟨g, j, none⟩ (.int .i64 v)) g (xs.set j v) := by
  unfold Arr at h ⊢
  simp [World.setCell, Array.getElem?_modify, h, ints, List.map_set]
theorem Arr.of_block {w w' : World} {g : Nat} {xs : List Int} (h : Arr w g xs) (hb : w'.heap[g]? = w.heap[g]?) : Arr w' g xs := hb.trans h

/-- just block g may have turned; nothing was laid. -/
structure Only (g : Nat) (w w' : World) : Prop where
  os : w'.os = w.os
  tape : w'.tape = w.tape
  output : w'.output = w.output
  size : w'.heap.size = w.heap.size
  block : ∀ k, k ≠ g → w'.heap[k]? = w.heap[k]?
theorem Only.refl (g : Nat) (w : World) : Only g w w := ⟨rfl, rfl, rfl, rfl, fun _ _ => rfl⟩
theorem Only.trans {g : Nat} {a b c : World} (h : Only g a b) (k : Only g b c) : Only g a c := ⟨k.os.trans h.os, k.tape.trans h.tape, k.output.trans h.output, k.size.trans h.size, fun i hi => (k.block i hi).trans (h.block i hi)⟩
theorem Only.setCell {g : Nat} {a w : World} (h : Only g a w) (j : Nat) (v : Value) : Only g a (w.setCell ⟨g, j, none⟩ v) :=
  h.trans ⟨rfl, rfl, rfl, by simp [World.setCell], fun k hk => Below.heap_setCell _ _ _ _ hk⟩
theorem Only.drewN {g : Nat} {a w : World} (h : Only g a w) (n : Nat) : Only g a (w.drewN n) := ⟨h.os, h.tape, h.output, h.size, h.block⟩
theorem Only.cell {g : Nat} {w w' : World} (h : Only g w w') {p : Addr} (hp : p.block ≠ g) : w'.cell? p = w.cell? p := World.cell?_of_block (h.block _ hp)

/-- cur with the numbers ws added from an index on: the first k of them. -/
def addK (cur : List Int) (fr : Nat) (ws : List Int) : Nat → List Int
  | 0 => cur
  | k + 1 => (addK cur fr ws k).set (fr + k) (ix cur (fr + k) + ix ws k)
theorem addK_length (cur : List Int) (fr : Nat) (ws : List Int) : ∀ k, (addK cur fr ws k).length = cur.length
  | 0 => rfl
  | k + 1 => by rw [addK, List.length_set, addK_length cur fr ws k]
theorem addK_later (cur : List Int) (fr : Nat) (ws : List Int) : ∀ k j, fr + k ≤ j → ix (addK cur fr ws k) j = ix cur j
  | 0, _, _ => rfl
  | k + 1, j, h => by
    have := addK_later cur fr ws k j (by omega)
    rw [← this, addK]
    simp only [ix, List.getD]
    rw [List.getElem?_set_ne (by omega)]

set_option maxHeartbeats 1000000 in
theorem add_any (sb g n cap : Nat) (cur ws : List Int) (fr : Nat) (A : Option Addr) (c B : Nat) (w : World)
    (hs : w.cell? ⟨sb, 0, none⟩ = some (.slice (some ⟨g, 0, none⟩) n cap)) (hn : n = cur.length) (hne : sb ≠ g) (hbg : ∀ b off, A = some ⟨b, off, none⟩ → b ≠ g)
    (ha : Arr w g cur) (hw : RD w B A (ints ws)) (hl : fr + ws.length ≤ cur.length) (hcl : cur.length ≤ 9) (hcb : ∀ j, -1000000000 ≤ ix cur j ∧ ix cur j ≤ 1000000000) (hwb : ∀ j, -1000000000 ≤ ix ws j ∧ ix ws j ≤ 1000000000) :
    Calls Try.prog 95 #[.pointer (some ⟨sb, 0, none⟩), .int .i64 fr, .slice A ws.length c] w fun e w' => e = .returned (.tuple #[]) ∧ Arr w' g (addK cur fr ws ws.length) ∧ Only g w w' := by
  have HCB := Lib.hid hcb
  have HWB := Lib.hid hwb
  have HN := Lib.hid hn
  have HBG := Lib.hid hbg
  have HA := Lib.hid ha
  clear hcb hwb hn hbg ha
  go_enter Try.func95, Try.ntmps95
  go_wp2
  go_loopw [10] (fun x wr => ∃ k : Nat, k ≤ ws.length ∧ x = .int .i64 k ∧ Arr wr g (addK cur fr ws k) ∧ Only g w wr) (fun x _ => ws.length - (intOf x).toNat)
  case atStart => exact ⟨0, by omega, rfl, HA.out, Only.refl _ _⟩
  case round =>
    obtain ⟨k, hk, rfl, har, hon⟩ := hrel
    by_cases hk' : k < ws.length
    · obtain ⟨b, off, rfl, hb, hcell⟩ := hw.ints (by omega)
      have hbne : b ≠ g := HBG.out _ _ rfl
      have y0 := (hon.cell (p := ⟨b, off + k, none⟩) hbne).trans (hcell k hk')
      have y1 := (hon.cell (p := ⟨sb, 0, none⟩) hne).trans hs
      have y2 := har.cell (j := fr + k) (by rw [addK_length]; omega)
      rw [addK_later cur fr ws k _ (Nat.le_refl _)] at y2
      have y3 := har.free (fr + k)
      have q1 := HCB.out (fr + k)
      have q2 := HWB.out k
      have hnn : cur.length ≤ n := by have := HN.out; omega
      have HAR := Lib.hid har
      have HON := Lib.hid hon
      clear har hon hcell hs hw
      go_wp2
      go_roundw
      case rel => exact ⟨k + 1, by omega, by go_num, HAR.out.set _ _, HON.out.setCell _ _⟩
      case measure => simp [intOf]; omega
    · have e : k = ws.length := by omega
      have E := Lib.hid e
      clear e
      go_wp2
      go_end0
      exact ⟨rfl, by rw [← E.out]; exact har, hon⟩

end Go.Proofs.Ytdlmdaononclgaa
