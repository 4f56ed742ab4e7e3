import Derived.Test.YtdlmdaononclgaaDoorGrp
import Derived.BigRegion
import Derived.Maps.AppendAt
/- The maker of the iterator; the accumulator's add; slices.Reverse at three numbers. -/
namespace Go.Proofs.YtdlmdaononclgaaDoor
open Go.RowKit
set_option linter.unusedVariables false
set_option linter.unusedSimpArgs false

theorem groups_any (A : Option Addr) (n c : Nat) (w : World) :
    Calls Tryd.prog 58 #[.slice A n c] w fun e w' => e = .returned (.func (.func 70) #[] #[.pointer (some ⟨w.heap.size, 0, none⟩)]) ∧ w' = w.alloc (.cells #[.slice A n c] 22) := by
  have hmf : ∀ (fn : Fn) (first cap : Array Value) (w : World), (Instr.makeFunc fn first cap).run Tryd.prog w = .ok (.func fn first cap) w := fun _ _ _ _ => rfl
  go_enter Tryd.func58, Tryd.ntmps58
  go_wp2
  go_ret
  exact ⟨rfl, rfl⟩

/-- block g is just the numbers xs, none frozen. -/
def Arr (w : World) (g : Nat) (xs : List Int) : Prop := w.heap[g]? = some (.cells (ints xs).toArray 3 (0, 0))
theorem Arr.lt {w : World} {g : Nat} {xs : List Int} (h : Arr w g xs) : g < w.heap.size := (Array.getElem?_eq_some_iff.1 h).1
theorem Arr.cell {w : World} {g : Nat} {xs : List Int} (h : Arr w g xs) {j : Nat} (hj : j < xs.length) : w.cell? ⟨g, j, none⟩ = some (.int .i64 (ix xs j)) := by
  rw [cell_of_row w g j _ _ _ h]
  rw [List.getElem?_toArray, ints_get, List.getElem?_eq_getElem hj]
  simp [ix, List.getD, List.getElem?_eq_getElem hj]
theorem Arr.free {w : World} {g : Nat} {xs : List Int} (h : Arr w g xs) (j : Nat) : w.frozen? ⟨g, j, none⟩ = false := by
  unfold Arr at h
  simp [World.frozen?, h]
theorem Arr.set {w : World} {g : Nat} {xs : List Int} (h : Arr w g xs) (j : Nat) (v : Int) : Arr (w.setCell ⟨g, j, none⟩ (.int .i64 v)) g (xs.set j v) := by
  unfold Arr at h ⊢
  simp [World.setCell, Array.getElem?_modify, h, ints, List.map_set]
theorem Arr.of_block {w w' : World} {g : Nat} {xs : List Int} (h : Arr w g xs) (hb : w'.heap[g]? = w.heap[g]?) : Arr w' g xs := hb.trans h

/-- just block g may have turned; nothing was laid. -/
structure Only (g : Nat) (w w' : World) : Prop where
  os : w'.os = w.os
  tape : w'.tape = w.tape
  output : w'.output = w.output
  size : w'.heap.size = w.heap.size
  block : ∀ k, k ≠ g → w'.heap[k]? = w.heap[k]?
theorem Only.refl (g : Nat) (w : World) : Only g w w := ⟨rfl, rfl, rfl, rfl, fun _ _ => rfl⟩
theorem Only.trans {g : Nat} {a b c : World} (h : Only g a b) (k : Only g b c) : Only g a c := ⟨k.os.trans h.os, k.tape.trans h.tape, k.output.trans h.output, k.size.trans h.size, fun i hi => (k.block i hi).trans (h.block i hi)⟩
theorem Only.setCell {g : Nat} {a w : World} (h : Only g a w) (j : Nat) (v : Value) : Only g a (w.setCell ⟨g, j, none⟩ v) :=
  h.trans ⟨rfl, rfl, rfl, by simp [World.setCell], fun k hk => Below.heap_setCell _ _ _ _ hk⟩
theorem Only.drewN {g : Nat} {a w : World} (h : Only g a w) (n : Nat) : Only g a (w.drewN n) := ⟨h.os, h.tape, h.output, h.size, h.block⟩
theorem Only.cell {g : Nat} {w w' : World} (h : Only g w w') {p : Addr} (hp : p.block ≠ g) : w'.cell? p = w.cell? p := World.cell?_of_block (h.block _ hp)

/-- cur with the numbers ws added from an index on: the first k of them. -/
def addK (cur : List Int) (fr : Nat) (ws : List Int) : Nat → List Int
  | 0 => cur
  | k + 1 => (addK cur fr ws k).set (fr + k) (ix cur (fr + k) + ix ws k)
theorem addK_length (cur : List Int) (fr : Nat) (ws : List Int) : ∀ k, (addK cur fr ws k).length = cur.length
  | 0 => rfl
  | k + 1 => by rw [addK, List.length_set, addK_length cur fr ws k]
theorem addK_later (cur : List Int) (fr : Nat) (ws : List Int) : ∀ k j, fr + k ≤ j → ix (addK cur fr ws k) j = ix cur j
  | 0, _, _ => rfl
  | k + 1, j, h => by
    have := addK_later cur fr ws k j (by omega)
    rw [← this, addK]
    simp only [ix, List.getD]
    rw [List.getElem?_set_ne (by omega)]

set_option maxHeartbeats 1000000 in
theorem add_any (sb g n cap : Nat) (cur ws : List Int) (fr : Nat) (A : Option Addr) (c B : Nat) (w : World)
    (hs : w.cell? ⟨sb, 0, none⟩ = some (.slice (some ⟨g, 0, none⟩) n cap)) (hn : n = cur.length) (hne : sb ≠ g) (hbg : ∀ b off, A = some ⟨b, off, none⟩ → b ≠ g)
    (ha : Arr w g cur) (hw : RD w B A (ints ws)) (hl : fr + ws.length ≤ cur.length) (hcl : cur.length ≤ 9) (hcb : ∀ j, -1000000000 ≤ ix cur j ∧ ix cur j ≤ 1000000000) (hwb : ∀ j, -1000000000 ≤ ix ws j ∧ ix ws j ≤ 1000000000) :
    Calls Tryd.prog 57 #[.pointer (some ⟨sb, 0, none⟩), .int .i64 fr, .slice A ws.length c] w fun e w' => e = .returned (.tuple #[]) ∧ Arr w' g (addK cur fr ws ws.length) ∧ Only g w w' := by
  have HCB := Lib.hid hcb
  have HWB := Lib.hid hwb
  have HN := Lib.hid hn
  have HBG := Lib.hid hbg
  have HA := Lib.hid ha
  clear hcb hwb hn hbg ha
  go_enter Tryd.func57, Tryd.ntmps57
  go_wp2
  go_loopw [10] (fun x wr => ∃ k : Nat, k ≤ ws.length ∧ x = .int .i64 k ∧ Arr wr g (addK cur fr ws k) ∧ Only g w wr) (fun x _ => ws.length - (intOf x).toNat)
  case atStart => exact ⟨0, by omega, rfl, HA.out, Only.refl _ _⟩
  case round =>
    obtain ⟨k, hk, rfl, har, hon⟩ := hrel
    by_cases hk' : k < ws.length
    · obtain ⟨b, off, rfl, hb, hcell⟩ := hw.ints (by omega)
      have hbne : b ≠ g := HBG.out _ _ rfl
      have y0 := (hon.cell (p := ⟨b, off + k, none⟩) hbne).trans (hcell k hk')
      have y1 := (hon.cell (p := ⟨sb, 0, none⟩) hne).trans hs
      have y2 := har.cell (j := fr + k) (by rw [addK_length]; omega)
      rw [addK_later cur fr ws k _ (Nat.le_refl _)] at y2
      have y3 := har.free (fr + k)
      have q1 := HCB.out (fr + k)
      have q2 := HWB.out k
      have hnn : cur.length ≤ n := by have := HN.out; omega
      have HAR := Lib.hid har
      have HON := Lib.hid hon
      clear har hon hcell hs hw
      go_wp2
      go_roundw
      case rel => exact ⟨k + 1, by omega, by go_num, HAR.out.set _ _, HON.out.setCell _ _⟩
      case measure => simp [intOf]; omega
    · have e : k = ws.length := by omega
      have E := Lib.hid e
      clear e
      go_wp2
      go_end0
      exact ⟨rfl, by rw [← E.out]; exact har, hon⟩

end Go.Proofs.YtdlmdaononclgaaDoor

/- slices.Reverse at three numbers. -/
namespace Go.Proofs.YtdlmdaononclgaaDoor
open Go.RowKit
set_option linter.unusedVariables false
set_option linter.unusedSimpArgs false

set_option maxHeartbeats 1000000 in
theorem rev3_any (g c : Nat) (x y z : Int) (w : World) (ha : Arr w g [x, y, z]) :
    Calls Tryd.prog 60 #[.slice (some ⟨g, 0, none⟩) 3 c] w fun e w' => e = .returned (.tuple #[]) ∧ Arr w' g [z, y, x] ∧ Only g w w' := by
  have y0 : w.cell? ⟨g, 0, none⟩ = some (.int .i64 x) := ha.cell (j := 0) (by simp)
  have y2 : w.cell? ⟨g, 2, none⟩ = some (.int .i64 z) := ha.cell (j := 2) (by simp)
  have f0 := ha.free 0
  have f2 := ha.free 2
  have HA := Lib.hid ha
  clear ha
  go_enter Tryd.func60, Tryd.ntmps60
  go_wp2
  refine wp_loop_rounds 3 ?_
  rw [rounds_succ]
  go_wp2
  go_region
  all_goals go_wp2
  all_goals rw [rounds_succ]
  all_goals go_wp2
  all_goals go_end0
  exact ⟨rfl, (HA.out.set 0 z).set 2 x, (((Only.refl g w).setCell 0 _).setCell 2 _).drewN 1⟩

/-- n zeros, as a block's cells. -/
def zerosA (n : Nat) : Array Value := (ints (List.replicate n 0)).toArray
theorem zerosA_made (n : Nat) : madeCells #[Value.int .i64 0] n = zerosA n := by
  apply Array.ext
  · simp [size_madeCells, zerosA, ints]
  · intro i h1 h2
    simp [madeCells, zerosA, ints, Nat.mod_one]
theorem infoInt : (Tryd.prog.info? 3).map (fun i => (i.zero, i.size, i.bytes)) = some (some (.int .i64 0), 1, 8) := by kernel_rfl
theorem make_ints (n : Nat) (hn : n ≤ 1000000) (W : World) : (Instr.makeSlice 22 (.int .i64 (n : Int)) (.int .i64 (n : Int))).run Tryd.prog W = .ok (.slice (some ⟨W.heap.size, 0, none⟩) n n) (W.alloc (.cells (zerosA n) 3)) := by
  obtain ⟨i0, hi, hz0, hz1, hz2⟩ := info_parts infoInt
  have := run_make (P := Tryd.prog) W 22 3 i0 (.int .i64 0) Tryd.underlying22 hi hz0 .i64 .i64 (n : Int) (n : Int) (by omega) (by omega) (by rw [hz2]; omega) (by omega)
  rw [this, hz1]
  simp only [Int.toNat_natCast, Value.cells, Nat.mul_one, zerosA_made]
theorem Arr.zeros (W : World) (n : Nat) : Arr (W.alloc (.cells (zerosA n) 3)) W.heap.size (List.replicate n 0) := heap_alloc_new W _

end Go.Proofs.YtdlmdaononclgaaDoor

/- Plain facts on groups and weights. -/
namespace Go.Proofs.YtdlmdaononclgaaDoor
open Go.RowKit
set_option linter.unusedVariables false
set_option linter.unusedSimpArgs false

/-- the weights of a group of two intervals d1, d2, of which one is 1, 2 or 3 times the other. -/
def grpW (d1 d2 : Int) : List Int :=
  if d1 = d2 then [12 * d1, 48 * d1, 12 * d1] else if d2 = 2 * d1 then [0, 81 * d1, 27 * d1] else if d2 = 3 * d1 then [-24 * d1, 128 * d1, 40 * d1]
  else if d1 = 2 * d2 then [27 * d2, 81 * d2, 0] else [40 * d2, 128 * d2, -24 * d2]
/-- the interval i. -/
def dx (xs : List Int) (i : Nat) : Int := ix xs (i + 1) - ix xs i
/-- what the group at interval i adds. -/
def addG (xs : List Int) (acc : List Int) (p : Int × Int) : List Int :=
  if p.2 = 1 then addK acc p.1.toNat [18 * dx xs p.1.toNat, 18 * dx xs p.1.toNat] 2
  else addK acc p.1.toNat (grpW (dx xs p.1.toNat) (dx xs (p.1.toNat + 1))) 3
/-- what the first i groups add up to. -/
def wtAcc (xs : List Int) (i : Nat) : List Int := ((groupsZ xs).take i).foldl (addG xs) (List.replicate xs.length 0)
def weightsZ (xs : List Int) : List Int := wtAcc xs (groupsZ xs).length

theorem wtAcc_zero (xs : List Int) : wtAcc xs 0 = List.replicate xs.length 0 := rfl
theorem wtAcc_succ {xs : List Int} {i : Nat} {x : Int × Int} (h : (groupsZ xs)[i]? = some x) : wtAcc xs (i + 1) = addG xs (wtAcc xs i) x := by
  unfold wtAcc
  rw [List.take_add_one, h]
  simp [List.foldl_append]
theorem addG_length (xs acc : List Int) (p : Int × Int) : (addG xs acc p).length = acc.length := by
  unfold addG; split <;> rw [addK_length]
theorem wtAcc_length (xs : List Int) (i : Nat) : (wtAcc xs i).length = xs.length := by
  unfold wtAcc
  generalize (groupsZ xs).take i = l
  have : ∀ (l : List (Int × Int)) (acc : List Int), acc.length = xs.length → (l.foldl (addG xs) acc).length = xs.length := by
    intro l
    induction l with
    | nil => intro acc h; exact h
    | cons p l ih => intro acc h; exact ih _ (by rw [addG_length]; exact h)
  exact this l _ (by simp)

/-- every group is one of an interval. -/
theorem grp_mem {xs : List Int} : ∀ (f i k : Nat) (x : Int × Int), (grp xs f i)[k]? = some x → ∃ j : Nat, x = ((j : Int), (manyN xs j : Int)) ∧ j + 1 < xs.length
  | 0, _, _, _, h => by simp [grp] at h
  | f + 1, i, k, x, h => by
    rw [grp] at h
    split at h
    · rename_i hi
      cases k with
      | zero => simp at h; exact ⟨i, h.symm, hi⟩
      | succ k => simp at h; exact grp_mem f _ k x h
    · simp at h
theorem manyN_cases (xs : List Int) (j : Nat) : manyN xs j = 1 ∨ (manyN xs j = 2 ∧ j + 2 < xs.length ∧ pairB (dx xs j) (dx xs (j + 1)) = true) := by
  unfold manyN
  split
  · rename_i h; exact .inr ⟨rfl, h.1, h.2⟩
  · exact .inl rfl
theorem group_at {xs : List Int} {i : Nat} {x : Int × Int} (h : (groupsZ xs)[i]? = some x) :
    ∃ j : Nat, j + 1 < xs.length ∧ ((x = ((j : Int), 1) ∧ manyN xs j = 1) ∨ (x = ((j : Int), 2) ∧ manyN xs j = 2 ∧ j + 2 < xs.length ∧ pairB (dx xs j) (dx xs (j + 1)) = true)) := by
  obtain ⟨j, hx, hj⟩ := grp_mem _ _ _ _ h
  refine ⟨j, hj, ?_⟩
  rcases manyN_cases xs j with h1 | ⟨h2, h3, h4⟩
  · left; rw [h1] at hx; exact ⟨hx, h1⟩
  · right; rw [h2] at hx; exact ⟨hx, h2, h3, h4⟩

/-- a fit pair: which of the five. -/
theorem pair_cases {a b : Int} (ha : 0 < a) (hb : 0 < b) (h : pairB a b = true) : (a = b ∧ ratioZ a b = 1 ∧ ratioZ b a = 1) ∨ (b = 2 * a ∧ ratioZ a b = 2 ∧ ratioZ b a = 0) ∨ (b = 3 * a ∧ ratioZ a b = 3 ∧ ratioZ b a = 0) ∨
    (a = 2 * b ∧ ratioZ a b = 0 ∧ ratioZ b a = 2) ∨ (a = 3 * b ∧ ratioZ a b = 0 ∧ ratioZ b a = 3) := by
  have key : ∀ {a b : Int}, 0 < a → 0 < b → 0 < ratioZ a b → (b = a ∧ ratioZ a b = 1) ∨ (b = 2 * a ∧ ratioZ a b = 2) ∨ (b = 3 * a ∧ ratioZ a b = 3) := by
    intro a b ha hb h
    unfold ratioZ at h ⊢
    split at h
    · rename_i hc
      rw [if_pos hc]
      have e := Int.mul_ediv_add_emod b a
      rw [hc.1] at e
      have e3 := hc.2
      generalize b / a = q at *
      rcases (by omega : q = 1 ∨ q = 2 ∨ q = 3) with rfl | rfl | rfl
      · left; exact ⟨by omega, rfl⟩
      · right; left; exact ⟨by omega, rfl⟩
      · right; right; exact ⟨by omega, rfl⟩
    · omega
  have zero : ∀ {a b : Int}, 0 < a → a < b → ratioZ b a = 0 := by
    intro a b ha hab
    unfold ratioZ
    rw [Int.emod_eq_of_lt (by omega) hab, if_neg (by omega)]
  have one : ∀ {a : Int}, 0 < a → ratioZ a a = 1 := by
    intro a ha
    unfold ratioZ
    rw [Int.emod_self, Int.ediv_self (by omega), if_pos (by omega)]
  simp only [pairB, Bool.or_eq_true, decide_eq_true_eq] at h
  rcases h with h | h
  · rcases key ha hb h with ⟨e, r⟩ | ⟨e, r⟩ | ⟨e, r⟩
    · subst e; exact .inl ⟨rfl, r, r⟩
    · exact .inr (.inl ⟨e, r, zero ha (by omega)⟩)
    · exact .inr (.inr (.inl ⟨e, r, zero ha (by omega)⟩))
  · rcases key hb ha h with ⟨e, r⟩ | ⟨e, r⟩ | ⟨e, r⟩
    · subst e; exact .inl ⟨rfl, r, r⟩
    · exact .inr (.inr (.inr (.inl ⟨e, zero hb (by omega), r⟩)))
    · exact .inr (.inr (.inr (.inr ⟨e, zero hb (by omega), r⟩)))

theorem grpW_1 (a : Int) : grpW a a = [12 * a, 48 * a, 12 * a] := if_pos rfl
theorem grpW_2 {a : Int} (h : 0 < a) : grpW a (2 * a) = [0, 81 * a, 27 * a] := by rw [grpW, if_neg (by omega), if_pos rfl]
theorem grpW_3 {a : Int} (h : 0 < a) : grpW a (3 * a) = [-24 * a, 128 * a, 40 * a] := by rw [grpW, if_neg (by omega), if_neg (by omega), if_pos rfl]
theorem grpW_4 {a : Int} (h : 0 < a) : grpW (2 * a) a = [27 * a, 81 * a, 0] := by rw [grpW, if_neg (by omega), if_neg (by omega), if_neg (by omega), if_pos rfl]
theorem grpW_5 {a : Int} (h : 0 < a) : grpW (3 * a) a = [40 * a, 128 * a, -24 * a] := by rw [grpW, if_neg (by omega), if_neg (by omega), if_neg (by omega), if_neg (by omega)]

/-- what is added, cell by cell. -/
theorem addK_ix (cur : List Int) (fr : Nat) (ws : List Int) : ∀ (k : Nat), fr + k ≤ cur.length → ∀ j, ix (addK cur fr ws k) j = if fr ≤ j ∧ j < fr + k then ix cur j + ix ws (j - fr) else ix cur j
  | 0, _, j => by rw [if_neg (by omega)]; rfl
  | k + 1, h, j => by
    have ih := addK_ix cur fr ws k (by omega) j
    rw [addK]
    by_cases e : j = fr + k
    · subst e
      rw [if_pos (by omega), show fr + k - fr = k by omega]
      simp only [ix, List.getD]
      rw [List.getElem?_set_self (by rw [addK_length]; omega)]
      rfl
    · have : ix ((addK cur fr ws k).set (fr + k) (ix cur (fr + k) + ix ws k)) j = ix (addK cur fr ws k) j := by
        simp only [ix, List.getD]
        rw [List.getElem?_set_ne (by omega)]
      rw [this, ih]
      by_cases hc : fr ≤ j ∧ j < fr + k
      · rw [if_pos hc, if_pos (by omega)]
      · rw [if_neg hc, if_neg (by omega)]

theorem ix_out {xs : List Int} {j : Nat} (h : xs.length ≤ j) : ix xs j = 0 := by simp [ix, List.getD, List.getElem?_eq_none h]
theorem ix_nil (j : Nat) : ix [] j = 0 := ix_out (Nat.zero_le _)
theorem ix_cons_zero (a : Int) (l : List Int) : ix (a :: l) 0 = a := rfl
theorem ix_cons_succ (a : Int) (l : List Int) (j : Nat) : ix (a :: l) (j + 1) = ix l j := rfl
theorem ix3_bd {a b c M : Int} (ha : -M ≤ a ∧ a ≤ M) (hb : -M ≤ b ∧ b ≤ M) (hc : -M ≤ c ∧ c ≤ M) (hM : 0 ≤ M) (j : Nat) : -M ≤ ix [a, b, c] j ∧ ix [a, b, c] j ≤ M := by
  match j with
  | 0 => exact ha
  | 1 => exact hb
  | 2 => exact hc
  | j + 3 => rw [ix_out (by simp)]; omega
theorem ix2_bd {a b M : Int} (ha : -M ≤ a ∧ a ≤ M) (hb : -M ≤ b ∧ b ≤ M) (hM : 0 ≤ M) (j : Nat) : -M ≤ ix [a, b] j ∧ ix [a, b] j ≤ M := by
  match j with
  | 0 => exact ha
  | 1 => exact hb
  | j + 2 => rw [ix_out (by simp)]; omega

theorem grpW_bd {a b : Int} (ha : 0 < a) (hb : 0 < b) (ha1 : a ≤ 100000) (hb1 : b ≤ 100000) (h : pairB a b = true) (j : Nat) : -20000000 ≤ ix (grpW a b) j ∧ ix (grpW a b) j ≤ 20000000 := by
  rcases pair_cases ha hb h with ⟨e, _⟩ | ⟨e, _⟩ | ⟨e, _⟩ | ⟨e, _⟩ | ⟨e, _⟩ <;> subst e
  · rw [grpW_1]; exact ix3_bd (by omega) (by omega) (by omega) (by omega) j
  · rw [grpW_2 ha]; exact ix3_bd (by omega) (by omega) (by omega) (by omega) j
  · rw [grpW_3 ha]; exact ix3_bd (by omega) (by omega) (by omega) (by omega) j
  · rw [grpW_4 hb]; exact ix3_bd (by omega) (by omega) (by omega) (by omega) j
  · rw [grpW_5 hb]; exact ix3_bd (by omega) (by omega) (by omega) (by omega) j

/-- the sums stay small. -/
theorem wtAcc_bd {most : Int} {xs : List Int} (hP : OkP 9 most xs) (hm : most ≤ 100000) : ∀ (i : Nat), i ≤ (groupsZ xs).length → ∀ j, -(20000000 * (i : Int)) ≤ ix (wtAcc xs i) j ∧ ix (wtAcc xs i) j ≤ 20000000 * (i : Int)
  | 0, _, j => by
    rw [wtAcc_zero]
    have : ix (List.replicate xs.length 0) j = 0 := by
      by_cases h : j < xs.length
      · simp [ix, List.getD, List.getElem?_replicate, h]
      · exact ix_out (by simp; omega)
    rw [this]; omega
  | i + 1, h, j => by
    have ih := wtAcc_bd hP hm i (by omega) j
    obtain ⟨x, hx⟩ : ∃ x, (groupsZ xs)[i]? = some x := ⟨_, List.getElem?_eq_getElem (by omega)⟩
    rw [wtAcc_succ hx]
    obtain ⟨k, hk, ⟨rfl, _⟩ | ⟨rfl, _, hk2, hp⟩⟩ := group_at hx
    · have d := hP.dif k hk
      simp only [addG, if_true, Int.toNat_natCast]
      rw [addK_ix _ _ _ _ (by rw [wtAcc_length]; omega)]
      have b := ix2_bd (a := 18 * dx xs k) (b := 18 * dx xs k) (M := 20000000) (by unfold dx; omega) (by unfold dx; omega) (by omega) (j - k)
      split <;> omega
    · have d := hP.dif k hk
      have d2 := hP.dif (k + 1) (by omega)
      simp only [addG, Int.toNat_natCast]
      rw [if_neg (by omega), addK_ix _ _ _ _ (by rw [wtAcc_length]; omega)]
      have b := grpW_bd (a := dx xs k) (b := dx xs (k + 1)) (by unfold dx; omega) (by unfold dx; omega) (by unfold dx; omega) (by unfold dx; omega) hp (j - k)
      split <;> omega

theorem groups_length (xs : List Int) : (groupsZ xs).length ≤ xs.length := by
  have : ∀ f i, (grp xs f i).length ≤ f := by
    intro f
    induction f with
    | zero => intro i; simp [grp]
    | succ f ih => intro i; rw [grp]; split; (simp only [List.length_cons]; have := ih (i + manyN xs i); omega); simp
  exact this _ _

theorem Arr.rd {w : World} {g : Nat} {xs : List Int} (h : Arr w g xs) : RD w (g + 1) (some ⟨g, 0, none⟩) (ints xs) :=
  .inr ⟨g, 0, rfl, by omega, fun j v hv => by rw [Nat.zero_add, cell_of_row w g j _ _ _ h, List.getElem?_toArray]; exact hv⟩
theorem Arr.built (W : World) (xs : List Int) : Arr (W.alloc (.cells (ints xs).toArray 3)) W.heap.size xs := heap_alloc_new W _

theorem add_at {sb g n cap m : Nat} {cur : List Int} (ws : List Int) {fr : Nat} {A : Option Addr} {c B : Nat} {w : World} (hm : ws.length = m)
    (hs : w.cell? ⟨sb, 0, none⟩ = some (.slice (some ⟨g, 0, none⟩) n cap)) (hn : n = cur.length) (hne : sb ≠ g) (hbg : ∀ b off, A = some ⟨b, off, none⟩ → b ≠ g)
    (ha : Arr w g cur) (hw : RD w B A (ints ws)) (hl : fr + ws.length ≤ cur.length) (hcl : cur.length ≤ 9) (hcb : ∀ j, -1000000000 ≤ ix cur j ∧ ix cur j ≤ 1000000000) (hwb : ∀ j, -1000000000 ≤ ix ws j ∧ ix ws j ≤ 1000000000) :
    Calls Tryd.prog 57 #[.pointer (some ⟨sb, 0, none⟩), .int .i64 fr, .slice A m c] w fun e w' => e = .returned (.tuple #[]) ∧ Arr w' g (addK cur fr ws m) ∧ Only g w w' := by
  subst hm
  exact add_any sb g n cap cur ws fr A c B w hs hn hne hbg ha hw hl hcl hcb hwb

end Go.Proofs.YtdlmdaononclgaaDoor

/- Plain facts on sums of weights times numbers. -/
namespace Go.Proofs.YtdlmdaononclgaaDoor
open Go.RowKit
set_option linter.unusedVariables false
set_option linter.unusedSimpArgs false

/-- the sum of ws j * f j, j below n. -/
def sm (ws : List Int) (f : Nat → Int) : Nat → Int
  | 0 => 0
  | n + 1 => sm ws f n + ix ws n * f n

theorem sm_congr {ws us : List Int} {f g : Nat → Int} : ∀ {n : Nat}, (∀ j, j < n → ix ws j * f j = ix us j * g j) → sm ws f n = sm us g n
  | 0, _ => rfl
  | n + 1, h => by rw [sm, sm, sm_congr (fun j hj => h j (by omega)), h n (by omega)]
theorem sm_scale (a : Int) {ws us : List Int} {f g : Nat → Int} : ∀ {n : Nat}, (∀ j, j < n → ix us j * g j = a * (ix ws j * f j)) → sm us g n = a * sm ws f n
  | 0, _ => by simp [sm]
  | n + 1, h => by rw [sm, sm, sm_scale a (fun j hj => h j (by omega)), h n (by omega)]; grind
theorem sm_lin (a b : Int) (ws : List Int) (f g : Nat → Int) : ∀ n, sm ws (fun j => a * f j + b * g j) n = a * sm ws f n + b * sm ws g n
  | 0 => by simp [sm]
  | n + 1 => by rw [sm, sm, sm, sm_lin a b ws f g n]; grind
theorem sm_append (ws : List Int) (f : Nat → Int) (n : Nat) : ∀ m, sm ws f (n + m) = sm ws f n + sm (ws.drop n) (fun j => f (n + j)) m
  | 0 => by simp [sm]
  | m + 1 => by
    rw [← Nat.add_assoc, sm, sm, sm_append ws f n m]
    have : ix (ws.drop n) m = ix ws (n + m) := by simp [ix, List.getD, List.getElem?_drop]
    rw [this]; omega

theorem ix_set {l : List Int} {k : Nat} (v : Int) (hk : k < l.length) (j : Nat) : ix (l.set k v) j = if j = k then v else ix l j := by
  by_cases e : j = k
  · subst e; rw [if_pos rfl]; simp [ix, List.getD, hk]
  · rw [if_neg e]; simp only [ix, List.getD]; rw [List.getElem?_set_ne (by omega)]
theorem sm_set {l : List Int} {k : Nat} (v : Int) (hk : k < l.length) (f : Nat → Int) : ∀ n, sm (l.set k v) f n = sm l f n + (if k < n then (v - ix l k) * f k else 0)
  | 0 => by simp [sm]
  | n + 1 => by
    rw [sm, sm, sm_set v hk f n, ix_set v hk]
    by_cases h : n = k
    · subst h; rw [if_pos rfl, if_neg (by omega), if_pos (by omega)]; grind
    · rw [if_neg h]
      by_cases h2 : k < n
      · rw [if_pos h2, if_pos (by omega)]; omega
      · rw [if_neg h2, if_neg (by omega)]; omega
theorem sm_addK (cur : List Int) (fr : Nat) (ws : List Int) (f : Nat → Int) : ∀ (m : Nat), fr + m ≤ cur.length → ∀ n, fr + m ≤ n → sm (addK cur fr ws m) f n = sm cur f n + sm ws (fun i => f (fr + i)) m
  | 0, _, n, _ => by simp [sm, addK]
  | m + 1, h, n, hn => by
    rw [addK, sm_set _ (by rw [addK_length]; omega), sm_addK cur fr ws f m (by omega) n (by omega), if_pos (by omega), addK_later cur fr ws m _ (Nat.le_refl _), sm]
    grind

/-- what the group p adds to the sum. -/
def gsum (xs : List Int) (f : Nat → Int) (p : Int × Int) : Int :=
  if p.2 = 1 then sm [18 * dx xs p.1.toNat, 18 * dx xs p.1.toNat] (fun i => f (p.1.toNat + i)) 2
  else sm (grpW (dx xs p.1.toNat) (dx xs (p.1.toNat + 1))) (fun i => f (p.1.toNat + i)) 3
theorem sm_addG {xs acc : List Int} (f : Nat → Int) {j : Nat} {m : Int} (hj : j + 1 < xs.length) (hm : m ≠ 1 → j + 2 < xs.length) (ha : acc.length = xs.length) : sm (addG xs acc ((j : Int), m)) f xs.length = sm acc f xs.length + gsum xs f ((j : Int), m) := by
  unfold addG gsum
  simp only [Int.toNat_natCast]
  by_cases h : m = 1
  · rw [if_pos h, if_pos h, sm_addK _ _ _ _ _ (by omega) _ (by omega)]
  · have := hm h
    rw [if_neg h, if_neg h, sm_addK _ _ _ _ _ (by omega) _ (by omega)]
/-- if each group adds a difference of P, all add the difference over the whole. -/
theorem sm_fold {xs : List Int} {f P : Nat → Int} : ∀ (fuel i : Nat) (acc : List Int), acc.length = xs.length → xs.length ≤ fuel + i → i < xs.length →
    (∀ j : Nat, ((j : Int), (manyN xs j : Int)) ∈ grp xs fuel i → j + 1 < xs.length → gsum xs f ((j : Int), (manyN xs j : Int)) = P (j + manyN xs j) - P j) →
    sm ((grp xs fuel i).foldl (addG xs) acc) f xs.length = sm acc f xs.length + (P (xs.length - 1) - P i)
  | 0, i, acc, _, h, hi, _ => by omega
  | fuel + 1, i, acc, ha, h, hi, hg => by
    rw [grp] at hg ⊢
    by_cases h1 : i + 1 < xs.length
    · rw [if_pos h1] at hg ⊢
      rw [List.foldl_cons]
      have hmp := manyN_pos xs i
      have hm2 : (manyN xs i : Int) ≠ 1 → i + 2 < xs.length := fun h => by
        rcases manyN_cases xs i with h | ⟨_, h, _⟩ <;> omega
      have hlt : i + manyN xs i < xs.length := by rcases manyN_cases xs i with h | ⟨h, h', _⟩ <;> omega
      rw [sm_fold fuel (i + manyN xs i) _ (by rw [addG_length]; exact ha) (by omega) hlt (fun j hj hj1 => hg j (List.mem_cons_of_mem _ hj) hj1), sm_addG f h1 hm2 ha, hg i List.mem_cons_self h1]
      omega
    · rw [if_neg h1]
      have : i = xs.length - 1 := by omega
      subst this
      simp
theorem sm_zero (n : Nat) (f : Nat → Int) (k : Nat) : sm (List.replicate n 0) f k = 0 := by
  induction k with
  | zero => rfl
  | succ k ih =>
    have : ix (List.replicate n 0) k = 0 := by
      by_cases h : k < n
      · simp [ix, List.getD, List.getElem?_replicate, h]
      · exact ix_out (by simp; omega)
    rw [sm, ih, this]; simp
theorem weightsZ_fold (xs : List Int) : weightsZ xs = (groupsZ xs).foldl (addG xs) (List.replicate xs.length 0) := by
  unfold weightsZ wtAcc; rw [List.take_length]
theorem sm_weights {xs : List Int} {f P : Nat → Int} (h2 : 1 ≤ xs.length) (hg : ∀ j : Nat, ((j : Int), (manyN xs j : Int)) ∈ groupsZ xs → j + 1 < xs.length → gsum xs f ((j : Int), (manyN xs j : Int)) = P (j + manyN xs j) - P j) :
    sm (weightsZ xs) f xs.length = P (xs.length - 1) - P 0 := by
  rw [weightsZ_fold, groupsZ, sm_fold xs.length 0 _ (by simp) (by omega) (by omega) hg, sm_zero]; omega

/-- a polynomial of degree 2, and 36 times its integral. -/
def poly (a b c x : Int) : Int := a + b * x + c * x * x
def intg (a b c x : Int) : Int := 36 * a * x + 18 * b * (x * x) + 12 * c * (x * x * x)

theorem sm2 (u v : Int) (f : Nat → Int) : sm [u, v] f 2 = u * f 0 + v * f 1 := by simp [sm, ix_cons_zero, ix_cons_succ]
theorem sm3 (u v w : Int) (f : Nat → Int) : sm [u, v, w] f 3 = u * f 0 + v * f 1 + w * f 2 := by simp [sm, ix_cons_zero, ix_cons_succ]

/-- a group of one interval integrates a polynomial of degree 1. -/
theorem gsum_one (xs : List Int) (a b : Int) (j : Nat) : gsum xs (fun i => poly a b 0 (ix xs i)) ((j : Int), 1) = intg a b 0 (ix xs (j + 1)) - intg a b 0 (ix xs j) := by
  unfold gsum
  rw [if_pos rfl, sm2]
  simp only [Int.toNat_natCast, dx, Nat.add_zero]
  unfold poly intg
  generalize ix xs (j + 1) = y
  generalize ix xs j = x
  grind
/-- a group of two intervals integrates one of degree 2. -/
theorem gsum_two {xs : List Int} (a b c : Int) {j : Nat} (h1 : 0 < dx xs j) (h2 : 0 < dx xs (j + 1)) (hp : pairB (dx xs j) (dx xs (j + 1)) = true) :
    gsum xs (fun i => poly a b c (ix xs i)) ((j : Int), 2) = intg a b c (ix xs (j + 2)) - intg a b c (ix xs j) := by
  unfold gsum
  rw [if_neg (by omega)]
  simp only [Int.toNat_natCast]
  have e1 : ix xs (j + 1) = ix xs j + dx xs j := by unfold dx; omega
  have e2 : ix xs (j + 2) = ix xs j + dx xs j + dx xs (j + 1) := by unfold dx; rw [show j + 1 + 1 = j + 2 from rfl]; omega
  generalize dx xs (j + 1) = q at *
  generalize dx xs j = p at *
  rcases pair_cases h1 h2 hp with ⟨e, _⟩ | ⟨e, _⟩ | ⟨e, _⟩ | ⟨e, _⟩ | ⟨e, _⟩ <;> subst e
  · rw [grpW_1, sm3, Nat.add_zero, e1, e2]; unfold poly intg; generalize ix xs j = x; grind
  · rw [grpW_2 h1, sm3, Nat.add_zero, e1, e2]; unfold poly intg; generalize ix xs j = x; grind
  · rw [grpW_3 h1, sm3, Nat.add_zero, e1, e2]; unfold poly intg; generalize ix xs j = x; grind
  · rw [grpW_4 h2, sm3, Nat.add_zero, e1, e2]; unfold poly intg; generalize ix xs j = x; grind
  · rw [grpW_5 h2, sm3, Nat.add_zero, e1, e2]; unfold poly intg; generalize ix xs j = x; grind

theorem dx_pos {many most : Int} {xs : List Int} (hP : OkP many most xs) {j : Nat} (hj : j + 1 < xs.length) : 0 < dx xs j := (hP.dif j hj).1

/-- THE WEIGHTS INTEGRATE polynomials of degree 1, and of degree 2 if all groups have two intervals. -/
theorem exact1 {many most : Int} {xs : List Int} (hP : OkP many most xs) (a b : Int) : sm (weightsZ xs) (fun i => poly a b 0 (ix xs i)) xs.length = intg a b 0 (ix xs (xs.length - 1)) - intg a b 0 (ix xs 0) := by
  refine sm_weights (f := fun i => poly a b 0 (ix xs i)) (P := fun j => intg a b 0 (ix xs j)) (by have := hP.two; omega) (fun j hmem hj => ?_)
  rcases manyN_cases xs j with h | ⟨h, h2, h3⟩
  · rw [h]; exact gsum_one xs a b j
  · rw [h]; exact gsum_two a b 0 (dx_pos hP hj) (dx_pos hP (by omega)) h3
theorem exact2 {many most : Int} {xs : List Int} (hP : OkP many most xs) (hall : ∀ p ∈ groupsZ xs, p.2 = 2) (a b c : Int) : sm (weightsZ xs) (fun i => poly a b c (ix xs i)) xs.length = intg a b c (ix xs (xs.length - 1)) - intg a b c (ix xs 0) := by
  refine sm_weights (f := fun i => poly a b c (ix xs i)) (P := fun j => intg a b c (ix xs j)) (by have := hP.two; omega) (fun j hmem hj => ?_)
  rcases manyN_cases xs j with h | ⟨h, h2, h3⟩
  · have := hall _ hmem; simp only [h] at this; omega
  · rw [h]; exact gsum_two a b c (dx_pos hP hj) (dx_pos hP (by omega)) h3

/-- the sum of the weights, and the sum of the weights times the positions. -/
theorem sum_one {many most : Int} {xs : List Int} (hP : OkP many most xs) : sm (weightsZ xs) (fun _ => 1) xs.length = 36 * (ix xs (xs.length - 1) - ix xs 0) := by
  have := exact1 hP 1 0
  rw [show (fun i => poly 1 0 0 (ix xs i)) = fun _ => (1 : Int) from funext fun i => by unfold poly; omega] at this
  rw [this]; unfold intg; omega
theorem sum_pos {many most : Int} {xs : List Int} (hP : OkP many most xs) : sm (weightsZ xs) (fun i => ix xs i) xs.length = 18 * (ix xs (xs.length - 1) * ix xs (xs.length - 1) - ix xs 0 * ix xs 0) := by
  have := exact1 hP 0 1
  rw [show (fun i => poly 0 1 0 (ix xs i)) = fun i => ix xs i from funext fun i => by unfold poly; grind] at this
  rw [this]; unfold intg; grind

/-- the sum of the sizes. -/
def sA (ws : List Int) : Nat → Int
  | 0 => 0
  | n + 1 => sA ws n + ((ix ws n).natAbs : Int)
theorem sA_nonneg (ws : List Int) : ∀ n, 0 ≤ sA ws n
  | 0 => by simp [sA]
  | n + 1 => by have := sA_nonneg ws n; rw [sA]; omega
theorem sA_mono (ws : List Int) {n m : Nat} (h : n ≤ m) : sA ws n ≤ sA ws m := by
  induction m with
  | zero => rw [show n = 0 by omega]; exact Int.le_refl _
  | succ m ih =>
    rcases Nat.lt_or_ge m n with h' | h'
    · rw [show n = m + 1 by omega]; exact Int.le_refl _
    · have := ih h'; rw [sA]; omega
theorem sA_at (ws : List Int) {n j : Nat} (h : j < n) : ((ix ws j).natAbs : Int) ≤ sA ws n := by
  have := sA_mono ws (show j + 1 ≤ n by omega)
  have h2 := sA_nonneg ws j
  rw [sA] at this; omega
theorem sA_set {l : List Int} {k : Nat} (v : Int) (hk : k < l.length) : ∀ n, sA (l.set k v) n ≤ sA l n + (if k < n then ((v - ix l k).natAbs : Int) else 0)
  | 0 => by simp [sA]
  | n + 1 => by
    have ih := sA_set v hk n
    rw [sA, sA, ix_set v hk]
    by_cases h : n = k
    · subst h; rw [if_pos rfl, if_pos (by omega)]; rw [if_neg (by omega)] at ih; omega
    · rw [if_neg h]
      by_cases h2 : k < n
      · rw [if_pos h2] at ih; rw [if_pos (by omega)]; omega
      · rw [if_neg h2] at ih; rw [if_neg (by omega)]; omega
theorem sA_addK (cur : List Int) (fr : Nat) (ws : List Int) : ∀ (m : Nat), fr + m ≤ cur.length → ∀ n, fr + m ≤ n → sA (addK cur fr ws m) n ≤ sA cur n + sA ws m
  | 0, _, n, _ => by simp [sA, addK]
  | m + 1, h, n, hn => by
    have ih := sA_addK cur fr ws m (by omega) n (by omega)
    have h1 := sA_set (l := addK cur fr ws m) (k := fr + m) (ix cur (fr + m) + ix ws m) (by rw [addK_length]; omega) n
    rw [if_pos (by omega), addK_later cur fr ws m _ (Nat.le_refl _)] at h1
    rw [addK, sA]
    have : ix cur (fr + m) + ix ws m - ix cur (fr + m) = ix ws m := by omega
    rw [this] at h1
    omega
theorem sA2 (u v : Int) : sA [u, v] 2 = (u.natAbs : Int) + (v.natAbs : Int) := by simp [sA, ix_cons_zero, ix_cons_succ]
theorem sA3 (u v w : Int) : sA [u, v, w] 3 = (u.natAbs : Int) + (v.natAbs : Int) + (w.natAbs : Int) := by simp [sA, ix_cons_zero, ix_cons_succ]
theorem sA_grpW {p q : Int} (h1 : 0 < p) (h2 : 0 < q) (hp : pairB p q = true) : sA (grpW p q) 3 ≤ 48 * (p + q) := by
  rcases pair_cases h1 h2 hp with ⟨e, _⟩ | ⟨e, _⟩ | ⟨e, _⟩ | ⟨e, _⟩ | ⟨e, _⟩ <;> subst e
  · rw [grpW_1, sA3]; omega
  · rw [grpW_2 h1, sA3]; omega
  · rw [grpW_3 h1, sA3]; omega
  · rw [grpW_4 h2, sA3]; omega
  · rw [grpW_5 h2, sA3]; omega
theorem sA_fold {many most : Int} {xs : List Int} (hP : OkP many most xs) : ∀ (fuel i : Nat) (acc : List Int), acc.length = xs.length → xs.length ≤ fuel + i → i < xs.length →
    sA ((grp xs fuel i).foldl (addG xs) acc) xs.length ≤ sA acc xs.length + 48 * (ix xs (xs.length - 1) - ix xs i)
  | 0, i, acc, _, h, hi => by omega
  | fuel + 1, i, acc, ha, h, hi => by
    rw [grp]
    by_cases h1 : i + 1 < xs.length
    · rw [if_pos h1, List.foldl_cons]
      have hmp := manyN_pos xs i
      have hd := dx_pos hP h1
      rcases manyN_cases xs i with hm | ⟨hm, hm2, hm3⟩
      · have ih := sA_fold hP fuel (i + manyN xs i) (addG xs acc ((i : Int), (manyN xs i : Int))) (by rw [addG_length]; exact ha) (by omega) (by omega)
        refine Int.le_trans ih ?_
        rw [hm]
        simp only [addG, Int.toNat_natCast]
        rw [if_pos (by omega)]
        have := sA_addK acc i [18 * dx xs i, 18 * dx xs i] 2 (by omega) xs.length (by omega)
        rw [sA2] at this
        have e : dx xs i = ix xs (i + 1) - ix xs i := rfl
        omega
      · have ih := sA_fold hP fuel (i + manyN xs i) (addG xs acc ((i : Int), (manyN xs i : Int))) (by rw [addG_length]; exact ha) (by omega) (by omega)
        refine Int.le_trans ih ?_
        rw [hm]
        simp only [addG, Int.toNat_natCast]
        rw [if_neg (by omega)]
        have := sA_addK acc i (grpW (dx xs i) (dx xs (i + 1))) 3 (by omega) xs.length (by omega)
        have g := sA_grpW hd (dx_pos hP (j := i + 1) (by omega)) hm3
        have e : dx xs i = ix xs (i + 1) - ix xs i := rfl
        have e2 : dx xs (i + 1) = ix xs (i + 2) - ix xs (i + 1) := rfl
        omega
    · rw [if_neg h1]
      have : i = xs.length - 1 := by omega
      subst this
      simp
theorem sA_zero (n k : Nat) : sA (List.replicate n 0) k = 0 := by
  induction k with
  | zero => rfl
  | succ k ih =>
    have : ix (List.replicate n 0) k = 0 := by
      by_cases h : k < n
      · simp [ix, List.getD, List.getElem?_replicate, h]
      · exact ix_out (by simp; omega)
    rw [sA, ih, this]; simp
/-- the sizes of the weights add up to at most 48 times the length. -/
theorem sA_weights {many most : Int} {xs : List Int} (hP : OkP many most xs) : sA (weightsZ xs) xs.length ≤ 48 * (ix xs (xs.length - 1) - ix xs 0) := by
  have := sA_fold hP xs.length 0 (List.replicate xs.length 0) (by simp) (by omega) (by have := hP.two; omega)
  rw [sA_zero] at this
  rw [weightsZ_fold, groupsZ]
  omega
/-- a sum is at most the sizes times the greatest. -/
theorem sm_bd {ws : List Int} {f : Nat → Int} {M : Int} (hM : 0 ≤ M) : ∀ {n : Nat}, (∀ j, j < n → -M ≤ f j ∧ f j ≤ M) → -(sA ws n * M) ≤ sm ws f n ∧ sm ws f n ≤ sA ws n * M
  | 0, _ => by simp [sm, sA]
  | n + 1, h => by
    have ih := sm_bd (ws := ws) hM (fun j hj => h j (by omega) : ∀ j, j < n → _)
    have hf := h n (by omega)
    have hp : (ix ws n * f n).natAbs ≤ (ix ws n).natAbs * M.natAbs := by rw [Int.natAbs_mul]; exact Nat.mul_le_mul_left _ (by omega)
    have hq : (((ix ws n).natAbs * M.natAbs : Nat) : Int) = ((ix ws n).natAbs : Int) * M := by rw [Int.natCast_mul]; congr 1; omega
    rw [sm, sA, Int.add_mul]
    omega

end Go.Proofs.YtdlmdaononclgaaDoor

/- Plain: weights of positions that are moved, or n times as great. -/
namespace Go.Proofs.YtdlmdaononclgaaDoor
open Go.RowKit
set_option linter.unusedVariables false
set_option linter.unusedSimpArgs false

theorem ix_map {g : Int → Int} {xs : List Int} {j : Nat} (h : j < xs.length) : ix (xs.map g) j = g (ix xs j) := by
  simp [ix, List.getD, List.getElem?_eq_getElem h]
theorem ix_map_zero {g : Int → Int} (hg : g 0 = 0) (xs : List Int) (j : Nat) : ix (xs.map g) j = g (ix xs j) := by
  by_cases h : j < xs.length
  · exact ix_map h
  · rw [ix_out (by simp; omega), ix_out (by omega), hg]
theorem ratioZ_scale {n : Int} (hn : 0 < n) (h k : Int) : ratioZ (n * h) (n * k) = ratioZ h k := by
  unfold ratioZ
  rw [Int.mul_emod_mul_of_pos _ _ hn, Int.mul_ediv_mul_of_pos _ _ hn]
  have : n * (k % h) = 0 ↔ k % h = 0 := by
    rw [Int.mul_eq_zero]
    exact ⟨fun x => x.resolve_left (by omega), Or.inr⟩
  simp only [this]
theorem pairB_scale {n : Int} (hn : 0 < n) (a b : Int) : pairB (n * a) (n * b) = pairB a b := by
  unfold pairB; rw [ratioZ_scale hn, ratioZ_scale hn]
theorem manyN_scale {xs ys : List Int} {n : Int} (hn : 0 < n) (hl : ys.length = xs.length) (hd : ∀ j, j + 1 < xs.length → dx ys j = n * dx xs j) (i : Nat) : manyN ys i = manyN xs i := by
  unfold manyN
  rw [hl]
  by_cases h : i + 2 < xs.length
  · have e1 := hd i (by omega)
    have e2 := hd (i + 1) (by omega)
    simp only [dx] at e1 e2
    rw [e1, show i + 1 + 1 = i + 2 from rfl] at *
    rw [e2, pairB_scale hn]
  · rw [if_neg (fun x => h x.1), if_neg (fun x => h x.1)]
theorem grp_scale {xs ys : List Int} (hl : ys.length = xs.length) (hm : ∀ i, manyN ys i = manyN xs i) : ∀ f i, grp ys f i = grp xs f i
  | 0, _ => rfl
  | f + 1, i => by rw [grp, grp, hl, hm, grp_scale hl hm f]
theorem grpW_scale {n : Int} (hn : 0 < n) (a b : Int) : grpW (n * a) (n * b) = (grpW a b).map (n * ·) := by
  have k : ∀ x y : Int, n * x = n * y ↔ x = y := fun x y => ⟨fun h => Int.eq_of_mul_eq_mul_left (by omega) h, fun h => by rw [h]⟩
  have e2 : ∀ x : Int, 2 * (n * x) = n * (2 * x) := fun x => by grind
  have e3 : ∀ x : Int, 3 * (n * x) = n * (3 * x) := fun x => by grind
  unfold grpW
  simp only [e2, e3, k]
  (repeat' split) <;> simp only [List.map_cons, List.map_nil, List.cons.injEq, and_true] <;> (refine ⟨?_, ?_, ?_⟩ <;> grind)
theorem addK_scale (n : Int) (cur : List Int) (fr : Nat) (ws : List Int) : ∀ m, addK (cur.map (n * ·)) fr (ws.map (n * ·)) m = (addK cur fr ws m).map (n * ·)
  | 0 => rfl
  | m + 1 => by
    have z : n * 0 = 0 := by omega
    rw [addK, addK, addK_scale n cur fr ws m, List.map_set, ix_map_zero (g := (n * ·)) z, ix_map_zero (g := (n * ·)) z]
    congr 1; grind
theorem addG_scale {xs ys : List Int} {n : Int} (hn : 0 < n) (hd : ∀ j, j + 1 < xs.length → dx ys j = n * dx xs j) {p : Int × Int} (hp : p.1.toNat + 1 < xs.length) (hp2 : p.2 ≠ 1 → p.1.toNat + 2 < xs.length) (acc : List Int) :
    addG ys (acc.map (n * ·)) p = (addG xs acc p).map (n * ·) := by
  unfold addG
  by_cases h : p.2 = 1
  · rw [if_pos h, if_pos h, ← addK_scale, hd _ hp]
    simp only [List.map_cons, List.map_nil]
    rw [show 18 * (n * dx xs p.1.toNat) = n * (18 * dx xs p.1.toNat) by grind]
  · have h2 := hp2 h
    rw [if_neg h, if_neg h, ← addK_scale, hd _ hp, hd _ (by omega), grpW_scale hn]
theorem fold_scale {xs ys : List Int} {n : Int} (hn : 0 < n) (hd : ∀ j, j + 1 < xs.length → dx ys j = n * dx xs j) : ∀ (l : List (Int × Int)) (acc : List Int), (∀ p ∈ l, p.1.toNat + 1 < xs.length ∧ (p.2 ≠ 1 → p.1.toNat + 2 < xs.length)) →
    l.foldl (addG ys) (acc.map (n * ·)) = (l.foldl (addG xs) acc).map (n * ·)
  | [], _, _ => rfl
  | p :: l, acc, h => by
    have hp := h p List.mem_cons_self
    rw [List.foldl_cons, List.foldl_cons, addG_scale hn hd hp.1 hp.2, fold_scale hn hd l _ (fun q hq => h q (List.mem_cons_of_mem _ hq))]
theorem weightsZ_scale {xs ys : List Int} {n : Int} (hn : 0 < n) (hl : ys.length = xs.length) (hd : ∀ j, j + 1 < xs.length → dx ys j = n * dx xs j) : weightsZ ys = (weightsZ xs).map (n * ·) := by
  have hg : groupsZ ys = groupsZ xs := by unfold groupsZ; rw [hl, grp_scale hl (manyN_scale hn hl hd)]
  have hz : List.replicate ys.length (0 : Int) = (List.replicate xs.length 0).map (n * ·) := by simp [hl]
  rw [weightsZ_fold, weightsZ_fold, hg, hz]
  refine fold_scale hn hd _ _ (fun p hp => ?_)
  obtain ⟨t, ht, rfl⟩ := List.getElem_of_mem hp
  obtain ⟨j, hj, ⟨e, _⟩ | ⟨e, _, h2, _⟩⟩ := group_at (i := t) (List.getElem?_eq_getElem ht)
  · rw [e]; simp; exact hj
  · rw [e]; simp; exact ⟨hj, h2⟩
theorem weightsZ_move {xs ys : List Int} (hl : ys.length = xs.length) (hd : ∀ j, j + 1 < xs.length → dx ys j = dx xs j) : weightsZ ys = weightsZ xs := by
  rw [weightsZ_scale (n := 1) (by omega) hl (fun j hj => by rw [hd j hj]; omega)]
  simp

/-- moved, and stretched. -/
theorem dx_move (xs : List Int) (by' : Int) {j : Nat} (hj : j + 1 < xs.length) : dx (xs.map (· + by')) j = dx xs j := by
  unfold dx; rw [ix_map (by omega), ix_map (by omega)]; omega
theorem dx_stretch (xs : List Int) (n : Int) {j : Nat} (hj : j + 1 < xs.length) : dx (xs.map (· * n)) j = n * dx xs j := by
  unfold dx; rw [ix_map (by omega), ix_map (by omega)]; grind

end Go.Proofs.YtdlmdaononclgaaDoor

/- Appending one number to a slice of the call's own. -/
namespace Go.Proofs.YtdlmdaononclgaaDoor
open Go.RowKit
set_option linter.unusedVariables false
set_option linter.unusedSimpArgs false

/-- the slice value v is the call's own (from block base on) and holds xs. -/
def OwnI (w : World) (base : Nat) (v : Value) (xs : List Int) : Prop := w.ownsRow base 3 1 v xs.length (ints xs)
theorem OwnI.nil (w : World) (base : Nat) : OwnI w base (.slice none 0 0) [] := World.ownsRow_nil w base _ _
theorem OwnI.form {w : World} {base : Nat} {v : Value} {xs : List Int} (h : OwnI w base v xs) :
    ∃ A cap, v = .slice A xs.length cap ∧ xs.length ≤ cap ∧ cap ≤ 9223372036854775807 ∧ RD w w.heap.size A (ints xs) ∧ (∀ b off, A = some ⟨b, off, none⟩ → base ≤ b ∧ v.ownBlock = some b) ∧ (∀ b, v.ownBlock = some b → base ≤ b ∧ b < w.heap.size) := by
  rcases h.2 with ⟨rfl, hn⟩ | ⟨g, cap, cur, rfl, hb, hg, hn, hm, hs, ht⟩
  · have : xs = [] := List.eq_nil_of_length_eq_zero hn
    subst this
    exact ⟨none, 0, rfl, by simp, by omega, .inl rfl, (fun b off e => by cases e), (fun b e => by cases e)⟩
  · have hlt : g < w.heap.size := (Array.getElem?_eq_some_iff.1 hg).1
    refine ⟨some ⟨g, 0, none⟩, cap, rfl, hn, by unfold maxLen at hm; omega, ?_, (fun b off e => by cases e; exact ⟨hb, rfl⟩), (fun b e => by simp only [Value.ownBlock, Option.some.injEq] at e; omega)⟩
    by_cases h0 : xs.length = 0
    · left; have : xs = [] := List.eq_nil_of_length_eq_zero h0; subst this; rfl
    · refine .inr ⟨g, 0, rfl, hlt, fun j v hv => ?_⟩
      have := h.cells (g := g) rfl j v hv
      rwa [Addr.add_lit] at this
theorem OwnI.kept {w w' : World} {base : Nat} {v : Value} {xs : List Int} (h : OwnI w base v xs) {B : Nat} (hb : Below B w w') (hB : w.heap.size ≤ B) : OwnI w' base v xs := by
  refine ⟨h.1, ?_⟩
  rcases h.2 with hn | ⟨g, cap, cur, rfl, h1, hg, rest⟩
  · exact .inl hn
  · exact .inr ⟨g, cap, cur, rfl, h1, (hb.block g (by have := (Array.getElem?_eq_some_iff.1 hg).1; omega)).trans hg, rest⟩

theorem cell_new1 (w : World) (v : Value) (t : TypeId) : (w.alloc (.cells #[v] t)).cell? ⟨w.heap.size, 0, none⟩ = some v := by
  rw [cell_of_row _ w.heap.size 0 _ _ _ (heap_alloc_new w _)]; rfl

theorem app_below {w0 wr w1 : World} {v : Value} {xs : List Int} {o : Obj} (hB : Below w0.heap.size w0 wr) (ho : OwnI wr w0.heap.size v xs) (hg : (wr.alloc o).grownBy w1 v.ownBlock) : Below w0.heap.size w0 w1 := by
  obtain ⟨A, cap, rfl, _, _, _, _, h⟩ := ho.form
  exact (hB.alloc hB.size o).grown hg (by have := hB.size; simp; omega) (fun k e => (h k e).1)

variable {w : World}

theorem wpList_app1 {ops : Array Oper} {rest : List Oper} {o : Oper} {a : Act} {Q : Exit → Act → World → Prop} (hgd : o.guard = none) (s x : Operand)
    (ho : o.op = .call { callee := .builtin .append, args := #[s, x], argTypes := #[22, 22] })
    (base : Nat) (v : Value) (xs : List Int) (hs : a.eval s = v) (hown : OwnI w base v xs) (g c : Nat) (y : Int) (hx : a.eval x = .slice (some ⟨g, 0, none⟩) 1 c) (hc : w.cell? ⟨g, 0, none⟩ = some (.int .i64 y))
    (hlen : xs.length ≤ 1000000) (hbase : base ≤ w.heap.size)
    (h : ∀ v' w', OwnI w' base v' (xs ++ [y]) → w.grownBy w' v.ownBlock → wpList Tryd.prog ops Q rest (a.put o.dst v') w') : wpList Tryd.prog ops Q (o :: rest) a w := by
  obtain ⟨i0, hi, hz0, hz1, hz2⟩ := info_parts infoInt
  refine wpList_plain hgd fun K hK => ?_
  obtain ⟨v', w', hrun, h2, h3, _⟩ := run_append_own (P := Tryd.prog) w base 22 o.type 3 i0 (.int .i64 0) 1 8 Tryd.underlying22 hi hz0 hz1 hz2 rfl (by decide) v xs.length (ints xs) hown
    ⟨g, 0, none⟩ 1 c [.int .i64 y] rfl (fun j u hu => by
      match j, hu with
      | 0, hu => simp at hu; subst hu; exact hc) (by simp [Value.oneCell']) (by unfold maxLen; omega) (by omega) hbase
  unfold Oper.wp execOp
  simp only [ho, resolve, invoke, builtin, Sem.run_bind, Sem.run_pure, Result.andThen_ok, List.map_toArray, List.map_cons, List.map_nil, hs, hx, hrun]
  refine hK _ _ (h v' w' ?_ h3)
  unfold OwnI
  rw [List.length_append]
  simpa [ints] using h2

end Go.Proofs.YtdlmdaononclgaaDoor

/- Slices of slices of numbers: read, and of the call's own. -/
namespace Go.Proofs.YtdlmdaononclgaaDoor
open Go.RowKit
set_option linter.unusedVariables false
set_option linter.unusedSimpArgs false

/-- the slice at an index; the row at an index. -/
def vx (vs : List Value) (i : Nat) : Value := vs.getD i (.slice none 0 0)
def rx (rs : List (List Int)) (i : Nat) : List Int := rs.getD i []
theorem vx_get {vs : List Value} {i : Nat} (h : i < vs.length) : vs[i]? = some (vx vs i) := by
  simp [vx, List.getD, List.getElem?_eq_getElem h]
theorem rx_get {rs : List (List Int)} {i : Nat} (h : i < rs.length) : rs[i]? = some (rx rs i) := by
  simp [rx, List.getD, List.getElem?_eq_getElem h]
theorem vx_set (vs : List Value) {i : Nat} (h : i < vs.length) (v : Value) (j : Nat) : vx (vs.set i v) j = if j = i then v else vx vs j := by
  simp only [vx, List.getD]
  by_cases e : j = i
  · subst e; rw [if_pos rfl, List.getElem?_set_self h]; rfl
  · rw [if_neg e, List.getElem?_set_ne (fun x => e x.symm)]
theorem rx_set (rs : List (List Int)) {i : Nat} (h : i < rs.length) (v : List Int) (j : Nat) : rx (rs.set i v) j = if j = i then v else rx rs j := by
  simp only [rx, List.getD]
  by_cases e : j = i
  · subst e; rw [if_pos rfl, List.getElem?_set_self h]; rfl
  · rw [if_neg e, List.getElem?_set_ne (fun x => e x.symm)]

/-- v is a slice that reads as xs, below block B. -/
def SL (w : World) (B : Nat) (v : Value) (xs : List Int) : Prop := ∃ A c, v = .slice A xs.length c ∧ xs.length ≤ c ∧ c ≤ 9223372036854775807 ∧ RD w B A (ints xs)
theorem SL.keep {w w' : World} {B B' : Nat} {v : Value} {xs : List Int} (h : SL w B v xs) (hb : Below B' w w') (hB : B ≤ B') : SL w' B v xs := by
  obtain ⟨A, c, rfl, h1, h2, h3⟩ := h
  exact ⟨A, c, rfl, h1, h2, h3.keep hb hB⟩
theorem SL.more {w : World} {B B' : Nat} {v : Value} {xs : List Int} (h : SL w B v xs) (hB : B ≤ B') : SL w B' v xs := by
  obtain ⟨A, c, rfl, h1, h2, h3⟩ := h
  exact ⟨A, c, rfl, h1, h2, h3.more hB⟩

/-- from A on lie the slices vs, which read as the rows rs. -/
structure RR (w : World) (B : Nat) (A : Option Addr) (vs : List Value) (rs : List (List Int)) : Prop where
  len : vs.length = rs.length
  rd : RD w B A vs
  each : ∀ i, i < rs.length → SL w B (vx vs i) (rx rs i)
theorem RR.keep {w w' : World} {B B' : Nat} {A : Option Addr} {vs : List Value} {rs : List (List Int)} (h : RR w B A vs rs) (hb : Below B' w w') (hB : B ≤ B') : RR w' B A vs rs :=
  ⟨h.len, h.rd.keep hb hB, fun i hi => (h.each i hi).keep hb hB⟩
theorem RR.more {w : World} {B B' : Nat} {A : Option Addr} {vs : List Value} {rs : List (List Int)} (h : RR w B A vs rs) (hB : B ≤ B') : RR w B' A vs rs :=
  ⟨h.len, h.rd.more hB, fun i hi => (h.each i hi).more hB⟩
theorem RR.cells {w : World} {B : Nat} {A : Option Addr} {vs : List Value} {rs : List (List Int)} (h : RR w B A vs rs) (hp : 0 < rs.length) :
    ∃ b off, A = some ⟨b, off, none⟩ ∧ b < B ∧ ∀ j, j < rs.length → w.cell? ⟨b, off + j, none⟩ = some (vx vs j) := by
  have hl := h.len
  rcases h.rd with e | ⟨b, off, rfl, hlt, hc⟩
  · rw [e] at hl; simp only [List.length_nil] at hl; omega
  · exact ⟨b, off, rfl, hlt, fun j hj => hc j _ (vx_get (by omega))⟩

/-- an own slice, of a world in which its block lies as it lay. -/
theorem OwnI.of_block {w w' : World} {base : Nat} {v : Value} {xs : List Int} (h : OwnI w base v xs) (hb : ∀ b, v.ownBlock = some b → w'.heap[b]? = w.heap[b]?) : OwnI w' base v xs := by
  refine ⟨h.1, ?_⟩
  rcases h.2 with hn | ⟨g, cap, cur, rfl, h1, hg, rest⟩
  · exact .inl hn
  · exact .inr ⟨g, cap, cur, rfl, h1, (hb g rfl).trans hg, rest⟩
theorem OwnI.sl {w : World} {base : Nat} {v : Value} {xs : List Int} (h : OwnI w base v xs) : SL w w.heap.size v xs := by
  obtain ⟨A, c, rfl, h1, h2, h3, _⟩ := h.form
  exact ⟨A, c, rfl, h1, h2, h3⟩

/-- block G holds the slices vs, each the call's own (from block base on), no two in one block. -/
structure ORows (w : World) (base G : Nat) (vs : List Value) (rs : List (List Int)) : Prop where
  len : vs.length = rs.length
  blk : w.heap[G]? = some (.cells vs.toArray 22 (0, 0))
  lt : G < base
  each : ∀ i, i < rs.length → OwnI w base (vx vs i) (rx rs i)
  apart : ∀ i j b, i < rs.length → j < rs.length → i ≠ j → (vx vs i).ownBlock = some b → (vx vs j).ownBlock ≠ some b
/-- the blocks of these. -/
def YR (G : Nat) (vs : List Value) (k : Nat) : Prop := k = G ∨ ∃ i, i < vs.length ∧ (vx vs i).ownBlock = some k

theorem ORows.in {w : World} {base G : Nat} {vs : List Value} {rs : List (List Int)} (h : ORows w base G vs rs) : ∀ k, YR G vs k → G ≤ k ∧ k < w.heap.size ∧ (k = G ∨ base ≤ k) := by
  intro k hk
  have hG := (Array.getElem?_eq_some_iff.1 h.blk).1
  have := h.lt
  rcases hk with rfl | ⟨i, hi, he⟩
  · exact ⟨Nat.le_refl _, hG, .inl rfl⟩
  · obtain ⟨_, _, _, _, _, _, _, hb⟩ := (h.each i (by rw [← h.len]; exact hi)).form
    have := hb k he
    exact ⟨by omega, this.2, .inr this.1⟩
theorem ORows.of_blocks {w w' : World} {base G : Nat} {vs : List Value} {rs : List (List Int)} (h : ORows w base G vs rs) (hb : ∀ k, YR G vs k → w'.heap[k]? = w.heap[k]?) : ORows w' base G vs rs :=
  ⟨h.len, (hb _ (.inl rfl)).trans h.blk, h.lt, fun i hi => (h.each i hi).of_block (fun b e => hb b (.inr ⟨i, by rw [h.len]; exact hi, e⟩)), h.apart⟩
theorem ORows.cell {w : World} {base G : Nat} {vs : List Value} {rs : List (List Int)} (h : ORows w base G vs rs) {i : Nat} (hi : i < rs.length) : w.cell? ⟨G, i, none⟩ = some (vx vs i) := by
  rw [cell_of_row w G i _ _ _ h.blk, List.getElem?_toArray, vx_get (by rw [h.len]; exact hi)]
theorem ORows.free {w : World} {base G : Nat} {vs : List Value} {rs : List (List Int)} (h : ORows w base G vs rs) (j : Nat) : w.frozen? ⟨G, j, none⟩ = false := by
  have := h.blk
  simp [World.frozen?, this]
theorem ORows.rr {w : World} {base G : Nat} {vs : List Value} {rs : List (List Int)} (h : ORows w base G vs rs) : RR w w.heap.size (some ⟨G, 0, none⟩) vs rs :=
  ⟨h.len, .inr ⟨G, 0, rfl, (Array.getElem?_eq_some_iff.1 h.blk).1, fun j v hv => by rw [Nat.zero_add, cell_of_row w G j _ _ _ h.blk, List.getElem?_toArray]; exact hv⟩, fun i hi => (h.each i hi).sl⟩

/-- one row has grown, and its slice is put back. -/
theorem ORows.put {W W' : World} {base G : Nat} {vs : List Value} {rs : List (List Int)} {i : Nat} {v' : Value} {ys : List Int} (h : ORows W base G vs rs) (hi : i < rs.length) (hbase : base ≤ W.heap.size)
    (hg : W.grownBy W' (vx vs i).ownBlock) (ho : OwnI W' base v' ys) (hv : v'.ownBlock = (vx vs i).ownBlock ∨ v'.ownBlock = some W.heap.size) :
    ORows (W'.setCell ⟨G, i, none⟩ v') base G (vs.set i v') (rs.set i ys) := by
  have hlt := h.lt
  have hGW := (Array.getElem?_eq_some_iff.1 h.blk).1
  have hrow : ∀ j, j < rs.length → ∀ b, (vx vs j).ownBlock = some b → base ≤ b ∧ b < W.heap.size := fun j hj b e => by
    obtain ⟨_, _, _, _, _, _, _, hb⟩ := (h.each j hj).form
    exact hb b e
  have hil : i < vs.length := by rw [h.len]; exact hi
  have hbG : W'.heap[G]? = some (.cells vs.toArray 22 (0, 0)) := (hg.block G hGW (fun e => by have := hrow i hi G e.symm; omega)).trans h.blk
  have hset : ∀ b, b ≠ G → (W'.setCell ⟨G, i, none⟩ v').heap[b]? = W'.heap[b]? := fun b hb => Below.heap_setCell _ _ _ _ hb
  refine ⟨by rw [List.length_set, List.length_set]; exact h.len, ?_, hlt, ?_, ?_⟩
  · simp [World.setCell, Array.getElem?_modify, hbG]
  · intro j hj
    rw [List.length_set] at hj
    rw [vx_set _ hil, rx_set _ hi]
    by_cases e : j = i
    · rw [if_pos e, if_pos e]
      refine ho.of_block (fun b hb => hset b ?_)
      obtain ⟨_, _, _, _, _, _, _, hb'⟩ := ho.form
      have := hb' b hb
      omega
    · rw [if_neg e, if_neg e]
      refine (h.each j hj).of_block (fun b hb => ?_)
      have hbr := hrow j hj b hb
      exact (hset b (by omega)).trans (hg.block b hbr.2 (fun x => h.apart i j b hi hj (fun q => e q.symm) x.symm hb))
  · intro j k b hj hk hne hb hb'
    rw [List.length_set] at hj hk
    rw [vx_set _ hil] at hb hb'
    have fresh : ∀ m, m < rs.length → m ≠ i → ∀ b, (vx vs m).ownBlock = some b → v'.ownBlock ≠ some b := fun m hm hmi b hmb hvb => by
      rcases hv with e | e
      · exact h.apart m i b hm hi hmi hmb (e ▸ hvb)
      · rw [e] at hvb
        have := hrow m hm b hmb
        simp only [Option.some.injEq] at hvb
        omega
    by_cases e1 : j = i
    · rw [if_pos e1] at hb
      rw [if_neg (by omega)] at hb'
      exact fresh k hk (by omega) b hb' hb
    · rw [if_neg e1] at hb
      by_cases e2 : k = i
      · rw [if_pos e2] at hb'
        exact fresh j hj e1 b hb hb'
      · rw [if_neg e2] at hb'
        exact h.apart j k b hj hk hne hb hb'

/-- what that is as a round's doing. -/
theorem ORows.put_round {W0 W W' : World} {base G : Nat} {vs : List Value} {rs : List (List Int)} {i : Nat} {v' : Value} {ys : List Int} (h0 : ORows W0 base G vs rs) (hb0 : Below W0.heap.size W0 W) (hi : i < rs.length)
    (hbase : base ≤ W0.heap.size) (hg : W.grownBy W' (vx vs i).ownBlock) (ho : OwnI W' base v' ys) (hv : v'.ownBlock = (vx vs i).ownBlock ∨ v'.ownBlock = some W.heap.size) :
    ORows (W'.setCell ⟨G, i, none⟩ v') base G (vs.set i v') (rs.set i ys) ∧ Round (YR G vs) (YR G (vs.set i v')) W0 (W'.setCell ⟨G, i, none⟩ v') := by
  have hin := h0.in
  have hil : i < vs.length := by rw [h0.len]; exact hi
  have h1 : ORows W base G vs rs := h0.of_blocks (fun k hk => hb0.block k (hin k hk).2.1)
  have h2 := h1.put hi (Nat.le_trans hbase hb0.size) hg ho hv
  have hs0 := hb0.size
  have hs1 := hg.size
  refine ⟨h2, ⟨hg.os.trans hb0.os, hg.tape.trans hb0.tape, hg.output.trans hb0.output, ?_, ?_, ?_, ?_⟩⟩
  · simp [World.setCell]; omega
  · intro k hk hy
    rw [Below.heap_setCell _ _ _ _ (fun e => hy (.inl e))]
    exact (hg.block k (by omega) (fun e => hy (.inr ⟨i, hil, e.symm⟩))).trans (hb0.block k hk)
  · intro k hk
    rcases hk with rfl | ⟨j, hj, e⟩
    · exact .inl (.inl rfl)
    · rw [List.length_set] at hj
      rw [vx_set _ hil] at e
      by_cases hji : j = i
      · rw [if_pos hji] at e
        rcases hv with h | h
        · exact .inl (.inr ⟨i, hil, h ▸ e⟩)
        · rw [h] at e; simp only [Option.some.injEq] at e; right; omega
      · rw [if_neg hji] at e
        exact .inl (.inr ⟨j, hj, e⟩)
  · exact fun k hk => (h2.in k hk).2.1

/-- n empty rows, laid new. -/
theorem ORows.new (W : World) (n base : Nat) (hb : W.heap.size < base) : ORows (W.alloc (.cells (List.replicate n (Value.slice none 0 0)).toArray 22)) base W.heap.size (List.replicate n (.slice none 0 0)) (List.replicate n []) := by
  have e : ∀ i, i < n → vx (List.replicate n (Value.slice none 0 0)) i = .slice none 0 0 := fun i hi => by simp [vx, List.getD, List.getElem?_replicate, hi]
  have e2 : ∀ i, i < n → rx (List.replicate n ([] : List Int)) i = [] := fun i hi => by simp [rx, List.getD, List.getElem?_replicate, hi]
  refine ⟨by simp, heap_alloc_new W _, hb, fun i hi => ?_, fun i j b hi hj hne hb => ?_⟩
  · rw [List.length_replicate] at hi
    rw [e i hi, e2 i hi]; exact OwnI.nil _ _
  · rw [List.length_replicate] at hi
    rw [e i hi] at hb; cases hb

/-- an own slice's block holds numbers. -/
theorem OwnI.kind {w : World} {base : Nat} {v : Value} {xs : List Int} (h : OwnI w base v xs) {b : Nat} (hb : v.ownBlock = some b) : ∃ cs, w.heap[b]? = some (.cells cs 3 (0, 0)) := by
  rcases h.2 with ⟨rfl, _⟩ | ⟨g, cap, cur, rfl, h1, hg, _⟩
  · cases hb
  · simp only [Value.ownBlock, Option.some.injEq] at hb
    subst hb
    exact ⟨_, hg⟩

variable {w : World}
/-- appending one number to an own slice, as in App, with the block of the result beside it. -/
theorem wpList_app2 {ops : Array Oper} {rest : List Oper} {o : Oper} {a : Act} {Q : Exit → Act → World → Prop} (hgd : o.guard = none) (s x : Operand)
    (ho : o.op = .call { callee := .builtin .append, args := #[s, x], argTypes := #[22, 22] })
    (base : Nat) (v : Value) (xs : List Int) (hs : a.eval s = v) (hown : OwnI w base v xs) (g c : Nat) (y : Int) (hx : a.eval x = .slice (some ⟨g, 0, none⟩) 1 c) (hc : w.cell? ⟨g, 0, none⟩ = some (.int .i64 y))
    (hlen : xs.length ≤ 1000000) (hbase : base ≤ w.heap.size)
    (h : ∀ v' w', OwnI w' base v' (xs ++ [y]) → w.grownBy w' v.ownBlock → (v'.ownBlock = v.ownBlock ∨ v'.ownBlock = some w.heap.size) → wpList Tryd.prog ops Q rest (a.put o.dst v') w') : wpList Tryd.prog ops Q (o :: rest) a w := by
  obtain ⟨i0, hi, hz0, hz1, hz2⟩ := info_parts infoInt
  refine wpList_plain hgd fun K hK => ?_
  obtain ⟨v', w', hrun, h2, h3, _, h5⟩ := run_append_own_at (P := Tryd.prog) w base 22 o.type 3 i0 (.int .i64 0) 1 8 Tryd.underlying22 hi hz0 hz1 hz2 rfl (by decide) v xs.length (ints xs) hown
    ⟨g, 0, none⟩ 1 c [.int .i64 y] rfl (fun j u hu => by
      match j, hu with
      | 0, hu => simp at hu; subst hu; exact hc) (by simp [Value.oneCell']) (by unfold maxLen; omega) (by omega) hbase
  unfold Oper.wp execOp
  simp only [ho, resolve, invoke, builtin, Sem.run_bind, Sem.run_pure, Result.andThen_ok, List.map_toArray, List.map_cons, List.map_nil, hs, hx, hrun]
  refine hK _ _ (h v' w' ?_ h3 h5)
  unfold OwnI
  rw [List.length_append]
  simpa [ints] using h2

/-- the same at an operation of a region that draws. -/
theorem op_app2 {ops : Array Oper} {o : Oper} {a : Act} {K : Act → World → Prop} {Q : Exit → Act → World → Prop} {E : Prop} (hgd : o.guard = none) (s x : Operand)
    (ho : o.op = .call { callee := .builtin .append, args := #[s, x], argTypes := #[22, 22] })
    (base : Nat) (v : Value) (xs : List Int) (hs : a.eval s = v) (hown : OwnI w base v xs) (g c : Nat) (y : Int) (hx : a.eval x = .slice (some ⟨g, 0, none⟩) 1 c) (hc : w.cell? ⟨g, 0, none⟩ = some (.int .i64 y))
    (hlen : xs.length ≤ 1000000) (hbase : base ≤ w.heap.size)
    (h : ∀ v' w', OwnI w' base v' (xs ++ [y]) → w.grownBy w' v.ownBlock → (v'.ownBlock = v.ownBlock ∨ v'.ownBlock = some w.heap.size) → K (a.put o.dst v') w') :
    if Region.wanted o (yielded ops a.tmps) = true then Oper.wp Tryd.prog o a w K Q else E := by
  have hw : Region.wanted o (yielded ops a.tmps) = true := by simp [Region.wanted, hgd]
  rw [if_pos hw]
  obtain ⟨i0, hi, hz0, hz1, hz2⟩ := info_parts infoInt
  obtain ⟨v', w', hrun, h2, h3, _, h5⟩ := run_append_own_at (P := Tryd.prog) w base 22 o.type 3 i0 (.int .i64 0) 1 8 Tryd.underlying22 hi hz0 hz1 hz2 rfl (by decide) v xs.length (ints xs) hown
    ⟨g, 0, none⟩ 1 c [.int .i64 y] rfl (fun j u hu => by
      match j, hu with
      | 0, hu => simp at hu; subst hu; exact hc) (by simp [Value.oneCell']) (by unfold maxLen; omega) (by omega) hbase
  unfold Oper.wp execOp
  simp only [ho, resolve, invoke, builtin, Sem.run_bind, Sem.run_pure, Result.andThen_ok, List.map_toArray, List.map_cons, List.map_nil, hs, hx, hrun]
  refine h v' w' ?_ h3 h5
  unfold OwnI
  rw [List.length_append]
  simpa [ints] using h2

end Go.Proofs.YtdlmdaononclgaaDoor

/- The reference's SameInts. -/
namespace Go.Proofs.YtdlmdaononclgaaDoor
open Go.RowKit
set_option linter.unusedVariables false
set_option linter.unusedSimpArgs false

theorem ix_ext {xs ys : List Int} (hl : xs.length = ys.length) (h : ∀ j, j < xs.length → ix xs j = ix ys j) : xs = ys := by
  apply List.ext_getElem hl
  intro j h1 h2
  have := h j h1
  simpa [ix, List.getD, List.getElem?_eq_getElem h1, List.getElem?_eq_getElem h2] using this
theorem ibne_false {a b : Int} (h : a = b) : (a != b) = false := by simp [h]
theorem ibne_true {a b : Int} (h : ¬ a = b) : (a != b) = true := by simpa using h

set_option maxHeartbeats 1000000 in
theorem SameInts_any (xs ys : List Int) (A : Option Addr) (c : Nat) (A2 : Option Addr) (c2 : Nat) (hc : xs.length ≤ c) (hm : c ≤ 9223372036854775807) (hc2 : ys.length ≤ c2) (hm2 : c2 ≤ 9223372036854775807) (w : World) {B B2 : Nat} (h : RD w B A (ints xs)) (h2 : RD w B2 A2 (ints ys)) :
    Calls Tryd.prog 30 #[.slice A xs.length c, .slice A2 ys.length c2] w fun e w' => e = .returned (.bool (decide (xs = ys))) ∧ ∃ k, w' = w.drewN k := by
  have H1 := Lib.hid h
  have H2 := Lib.hid h2
  clear h h2
  by_cases hl : xs.length = ys.length
  · have e1 : (((xs.length : Int) != (ys.length : Int)) = false) := ibne_false (by omega)
    have e2 : (xs.length != ys.length) = false := by simp [hl]
    have HL := Lib.hid hl
    clear hl
    go_enter Tryd.func30, Tryd.ntmps30
    go_wp2
    go_loopw [5] (fun v wr => ∃ k q : Nat, k ≤ xs.length ∧ v = .int .i64 k ∧ wr = w.drewN q ∧ ∀ j, j < k → ix xs j = ix ys j) (fun v _ => xs.length - (intOf v).toNat)
    case atStart => exact ⟨0, 0, by omega, rfl, rfl, fun j hj => by omega⟩
    case round =>
      obtain ⟨k, q, hk, rfl, rfl, hlt⟩ := hrel
      have HLT := Lib.hid hlt; clear hlt
      by_cases hk' : k < xs.length
      · obtain ⟨b, off, rfl, hb, hcell⟩ := H1.out.ints (by omega)
        obtain ⟨b2, off2, rfl, hb2, hcell2⟩ := H2.out.ints (by have := HL.out; omega)
        have hky : k < ys.length := by have := HL.out; omega
        have y0 := hcell k hk'
        have y1 := hcell2 k hky
        clear hcell hcell2
        by_cases he : ix xs k = ix ys k
        · have d0 := ibne_false he
          have HE := Lib.hid he
          clear he
          go_wp2
          go_quiet (fail)
          go_wp2
          go_roundw
          case rel => exact ⟨k + 1, q + nq, by omega, by go_num, by first | rfl | rw [World.drewN_drewN], fun j hj => (by rcases (by omega : j < k ∨ j = k) with h | rfl; exact HLT.out j h; exact HE.out)⟩
          case measure => simp [intOf]; omega
        · have d0 := ibne_true he
          have HE := Lib.hid he
          clear he
          go_wp2
          go_quiet (fail)
          go_wp2
          go_ret
          exact ⟨ret_bool (decide_eq_false (fun e => HE.out (by rw [e]))).symm, q + nq, by first | rfl | rw [World.drewN_drewN]⟩
      · go_wp2
        go_ret
        exact ⟨ret_bool (decide_eq_true (ix_ext HL.out (fun j hj => HLT.out j (by omega)))).symm, q, rfl⟩
  · have e1 : (((xs.length : Int) != (ys.length : Int)) = true) := ibne_true (by omega)
    have e2 : (xs.length != ys.length) = true := by simpa using hl
    have HL := Lib.hid hl
    clear hl
    go_enter Tryd.func30, Tryd.ntmps30
    go_wp2
    go_ret
    exact ⟨ret_bool (decide_eq_false (fun e => HL.out (by rw [e]))).symm, 0, rfl⟩

theorem SameInts_is {xs ys : List Int} {r : Bool} (hr : decide (xs = ys) = r) (A : Option Addr) (c : Nat) (A2 : Option Addr) (c2 : Nat) (hc : xs.length ≤ c) (hm : c ≤ 9223372036854775807) (hc2 : ys.length ≤ c2) (hm2 : c2 ≤ 9223372036854775807) (w : World) {B B2 : Nat} (h : RD w B A (ints xs)) (h2 : RD w B2 A2 (ints ys)) :
    Calls Tryd.prog 30 #[.slice A xs.length c, .slice A2 ys.length c2] w fun e w' => e = .returned (.bool r) ∧ ∃ k, w' = w.drewN k := by
  subst hr; exact SameInts_any xs ys A c A2 c2 hc hm hc2 hm2 w h h2

end Go.Proofs.YtdlmdaononclgaaDoor
