import Derived.Test.YtdlmdaononclgaaLawScales
import Derived.Test.YtdlmdaononclgaaRo
import Derived.Test.YtdlmdaononclgaaPartP
/- Three slices of the call's own; the lists of WeighSums, and what holds of them. -/
namespace Go.Proofs.Ytdlmdaononclgaa
open Go.RowKit
set_option linter.unusedVariables false
set_option linter.unusedSimpArgs false

structure Own3 (w : World) (base : Nat) (v1 : Value) (l1 : List Int) (v2 : Value) (l2 : List Int) (v3 : Value) (l3 : List Int) : Prop where
  o12 : Own2 w base v1 l1 v2 l2
  o13 : Own2 w base v1 l1 v3 l3
  o23 : Own2 w base v2 l2 v3 l3
section
variable {w w' : World} {base : Nat} {v1 v2 v3 v' : Value} {l1 l2 l3 l' : List Int}
theorem Own3.nil (w : World) (base : Nat) : Own3 w base (.slice none 0 0) [] (.slice none 0 0) [] (.slice none 0 0) [] := by
  have h : Own2 w base (.slice none 0 0) [] (.slice none 0 0) [] := ⟨OwnI.nil _ _, OwnI.nil _ _, fun b hb => by cases hb⟩
  exact ⟨h, h, h⟩
theorem Own3.kept (h : Own3 w base v1 l1 v2 l2 v3 l3) {B : Nat} (hb : Below B w w') (hB : w.heap.size ≤ B) : Own3 w' base v1 l1 v2 l2 v3 l3 := ⟨h.o12.kept hb hB, h.o13.kept hb hB, h.o23.kept hb hB⟩
/-- two slices, where a third one has grown. -/
theorem Own2.skip (h : Own2 w base v2 l2 v3 l3) (h12 : ∀ b, v1.ownBlock = some b → v2.ownBlock ≠ some b) (h13 : ∀ b, v1.ownBlock = some b → v3.ownBlock ≠ some b) (hg : w.grownBy w' v1.ownBlock) : Own2 w' base v2 l2 v3 l3 :=
  ⟨h.o1.of_block (fun b hb => hg.block b (h.o1.at_block hb).2 (fun e => h12 b e.symm hb)), h.o2.of_block (fun b hb => hg.block b (h.o2.at_block hb).2 (fun e => h13 b e.symm hb)), h.ne⟩
theorem Own3.app1 (h : Own3 w base v1 l1 v2 l2 v3 l3) (ho : OwnI w' base v' l') (hg : w.grownBy w' v1.ownBlock) (hv : v'.ownBlock = v1.ownBlock ∨ v'.ownBlock = some w.heap.size) : Own3 w' base v' l' v2 l2 v3 l3 :=
  ⟨h.o12.app1 ho hg hv, h.o13.app1 ho hg hv, h.o23.skip h.o12.ne h.o13.ne hg⟩
theorem Own3.app2 (h : Own3 w base v1 l1 v2 l2 v3 l3) (ho : OwnI w' base v' l') (hg : w.grownBy w' v2.ownBlock) (hv : v'.ownBlock = v2.ownBlock ∨ v'.ownBlock = some w.heap.size) : Own3 w' base v1 l1 v' l' v3 l3 :=
  ⟨h.o12.app2 ho hg hv, h.o13.skip (fun b hb hb1 => h.o12.ne b hb1 hb) h.o23.ne hg, h.o23.app1 ho hg hv⟩
theorem Own3.app3 (h : Own3 w base v1 l1 v2 l2 v3 l3) (ho : OwnI w' base v' l') (hg : w.grownBy w' v3.ownBlock) (hv : v'.ownBlock = v3.ownBlock ∨ v'.ownBlock = some w.heap.size) : Own3 w' base v1 l1 v2 l2 v' l' :=
  ⟨h.o12.skip (fun b hb hb1 => h.o13.ne b hb1 hb) (fun b hb hb1 => h.o23.ne b hb1 hb) hg, h.o13.app2 ho hg hv, h.o23.app2 ho hg hv⟩
end

/-- the ordinates that numbers describe. -/
def ordL (y : List Int) (k : Nat) : List Int := (List.range k).map fun (i : Nat) => atZ y (i : Int) % 2001 - 1000
theorem ordL_length (y : List Int) (k : Nat) : (ordL y k).length = k := by simp [ordL]
theorem ordL_succ (y : List Int) (k : Nat) : ordL y (k + 1) = ordL y k ++ [atZ y (k : Int) % 2001 - 1000] := by simp [ordL, List.range_succ]
theorem ordL_ix {y : List Int} {k j : Nat} (h : j < k) : ix (ordL y k) j = atZ y (j : Int) % 2001 - 1000 := by simp [ix, ordL, List.getD, h]
theorem ordL_bd (y : List Int) (k j : Nat) : -1000 ≤ ix (ordL y k) j ∧ ix (ordL y k) j ≤ 1000 := by
  by_cases h : j < k
  · rw [ordL_ix h]; omega
  · rw [ix_out (by rw [ordL_length]; omega)]; omega
def linL (p q : Int) (a b : List Int) (k : Nat) : List Int := (List.range k).map fun (i : Nat) => p * ix a i + q * ix b i
theorem linL_length (p q : Int) (a b : List Int) (k : Nat) : (linL p q a b k).length = k := by simp [linL]
theorem linL_succ (p q : Int) (a b : List Int) (k : Nat) : linL p q a b (k + 1) = linL p q a b k ++ [p * ix a k + q * ix b k] := by simp [linL, List.range_succ]
theorem linL_ix {p q : Int} {a b : List Int} {k j : Nat} (h : j < k) : ix (linL p q a b k) j = p * ix a j + q * ix b j := by simp [ix, linL, List.getD, h]
theorem linL_congr {p q : Int} {a b a' b' : List Int} {k : Nat} (h : ∀ j, j < k → ix a j = ix a' j ∧ ix b j = ix b' j) : linL p q a b k = linL p q a' b' k := by
  refine ix_ext (by rw [linL_length, linL_length]) (fun j hj => ?_)
  rw [linL_length] at hj
  rw [linL_ix hj, linL_ix hj, (h j hj).1, (h j hj).2]
theorem linL_next (p q : Int) (ya yb : List Int) (k : Nat) : linL p q (ordL ya (k + 1)) (ordL yb (k + 1)) (k + 1) = linL p q (ordL ya k) (ordL yb k) k ++ [p * (atZ ya (k : Int) % 2001 - 1000) + q * (atZ yb (k : Int) % 2001 - 1000)] := by
  have e : linL p q (ordL ya (k + 1)) (ordL yb (k + 1)) k = linL p q (ordL ya k) (ordL yb k) k := linL_congr (fun j hj => ⟨by rw [ordL_ix (k := k + 1) (by omega), ordL_ix (k := k) hj], by rw [ordL_ix (k := k + 1) (by omega), ordL_ix (k := k) hj]⟩)
  rw [linL_succ, e, ordL_ix (k := k + 1) (by omega), ordL_ix (k := k + 1) (by omega)]
theorem lin_bd {p q x y : Int} (hp : -9 ≤ p ∧ p ≤ 9) (hq : -9 ≤ q ∧ q ≤ 9) (hx : -1000 ≤ x ∧ x ≤ 1000) (hy : -1000 ≤ y ∧ y ≤ 1000) : (-9000 ≤ p * x ∧ p * x ≤ 9000) ∧ (-9000 ≤ q * y ∧ q * y ≤ 9000) := by
  have h1 := mulbd (x := p) (y := x) (M := 9) (N := 1000) hp hx (by omega) (by omega)
  have h2 := mulbd (x := q) (y := y) (M := 9) (N := 1000) hq hy (by omega) (by omega)
  omega

/-- areas and moments of valid ordinates. -/
theorem ord_ok {xs ys : List Int} (hP : OkP 9 100000 xs) (hl : ys.length = xs.length) (hb : ∀ j, -20000 ≤ ix ys j ∧ ix ys j ≤ 20000) : ordE xs ys = 0 := by
  unfold ordE
  rw [if_pos (okP_mk hP), if_pos hl, if_neg]
  rw [anyB_no (fun j hj => by have := hb j; simp only [badO, within, Bool.not_eq_false', Bool.and_eq_true, decide_eq_true_eq]; omega)]
  simp
theorem areaV {xs ys : List Int} (hP : OkP 9 100000 xs) (hl : ys.length = xs.length) (hb : ∀ j, -20000 ≤ ix ys j ∧ ix ys j ≤ 20000) : areaR xs ys = (sm (weightsZ xs) (fun j => ix ys j) xs.length, 0) := by
  unfold areaR
  rw [if_pos (ord_ok hP hl hb), dotK_sm]
theorem momV {xs ys : List Int} {ab : Int} (hP : OkP 9 100000 xs) (hl : ys.length = xs.length) (hb : ∀ j, -20000 ≤ ix ys j ∧ ix ys j ≤ 20000) (h0 : 0 ≤ ab) (h1 : ab ≤ 100000) : momR xs ys ab = (sm (weightsZ xs) (fun j => ix ys j * (ix xs j - ab)) xs.length, 0) := by
  unfold momR
  rw [if_pos (ord_ok hP hl hb), if_pos (by simp only [within, Bool.and_eq_true, decide_eq_true_eq]; omega), dotK_sm, sm_congr' (g := fun j => ix ys j * (ix xs j - ab)) (fun j hj => momL_ix _ _ _ _ _ hj)]
section
variable {ps a b : List Int} {n : Nat} {p q ab : Int} (hP : OkP 9 100000 ps) (hn : ps.length = n) (ha : a.length = n) (hb : b.length = n) (ba : ∀ j, -1000 ≤ ix a j ∧ ix a j ≤ 1000) (bb : ∀ j, -1000 ≤ ix b j ∧ ix b j ≤ 1000) (hp : -9 ≤ p ∧ p ≤ 9) (hq : -9 ≤ q ∧ q ≤ 9) (h0 : 0 ≤ ab) (h1 : ab ≤ 100000)
theorem wsum_bd (hP : OkP 9 100000 ps) (hn : ps.length = n) : sA (weightsZ ps) n ≤ 4800000 := by
  have := sA_weights hP
  have := hP.low
  have := hP.high
  rw [hn] at *
  omega
include hP hn ba in
theorem area_small : -4800000000 ≤ sm (weightsZ ps) (fun j => ix a j) n ∧ sm (weightsZ ps) (fun j => ix a j) n ≤ 4800000000 := by
  have := sm_bdC (ws := weightsZ ps) (f := fun j => ix a j) (n := n) (M := 1000) (C := 4800000) (by omega) (wsum_bd hP hn) (fun j _ => ba j)
  omega
include hP hn ba h0 h1 in
theorem mom_small : -480000000000000 ≤ sm (weightsZ ps) (fun j => ix a j * (ix ps j - ab)) n ∧ sm (weightsZ ps) (fun j => ix a j * (ix ps j - ab)) n ≤ 480000000000000 := by
  have := sm_bdC (ws := weightsZ ps) (f := fun j => ix a j * (ix ps j - ab)) (n := n) (M := 100000000) (C := 4800000) (by omega) (wsum_bd hP hn) (fun j hj => by
    have e1 := hP.lo j (by omega)
    have e2 := hP.hi' j (by omega)
    have e3 := ba j
    have := mulbd (x := ix a j) (y := ix ps j - ab) (M := 1000) (N := 100000) (by omega) (by omega) (by omega) (by omega)
    omega)
  omega
theorem area_lin : sm (weightsZ ps) (fun j => ix (linL p q a b n) j) n = p * sm (weightsZ ps) (fun j => ix a j) n + q * sm (weightsZ ps) (fun j => ix b j) n := by
  rw [← sm_lin]
  exact sm_congr' (fun j hj => linL_ix hj)
theorem mom_lin : sm (weightsZ ps) (fun j => ix (linL p q a b n) j * (ix ps j - ab)) n = p * sm (weightsZ ps) (fun j => ix a j * (ix ps j - ab)) n + q * sm (weightsZ ps) (fun j => ix b j * (ix ps j - ab)) n := by
  rw [← sm_lin]
  exact sm_congr' (fun j hj => by rw [linL_ix hj]; grind)
include hP hn in
theorem sum_all : sm (weightsZ ps) (fun _ => 1) n = 36 * (ix ps (n - 1) - ix ps 0) := by
  subst hn; exact sum_one hP
end
section
variable {ps a : List Int} {k : Nat} {ab : Int} (hk : k + 1 ≤ ps.length) (h : agreeB (ps.take (k + 1)) (ps.drop k) ps = true)
include hk h
theorem area_parts : sm (weightsZ ps) (fun j => ix a j) ps.length = sm (weightsZ (ps.take (k + 1))) (fun j => ix (a.take (k + 1)) j) (ps.take (k + 1)).length + sm (weightsZ (ps.drop k)) (fun j => ix (a.drop k) j) (ps.drop k).length := by
  rw [parted hk h]
  congr 1
  · refine sm_congr' (fun j hj => ?_)
    rw [List.length_take] at hj
    rw [ix_take (by omega)]
  · exact sm_congr' (fun j hj => by rw [ix_drop])
theorem mom_parts : sm (weightsZ ps) (fun j => ix a j * (ix ps j - ab)) ps.length = sm (weightsZ (ps.take (k + 1))) (fun j => ix (a.take (k + 1)) j * (ix (ps.take (k + 1)) j - ab)) (ps.take (k + 1)).length + sm (weightsZ (ps.drop k)) (fun j => ix (a.drop k) j * (ix (ps.drop k) j - ab)) (ps.drop k).length := by
  rw [parted hk h]
  congr 1
  · refine sm_congr' (fun j hj => ?_)
    rw [List.length_take] at hj
    rw [ix_take (by omega), ix_take (by omega)]
  · exact sm_congr' (fun j hj => by rw [ix_drop, ix_drop])
end

theorem lin_small {p q x u M : Int} (hp : -9 ≤ p ∧ p ≤ 9) (hq : -9 ≤ q ∧ q ≤ 9) (hM : 0 ≤ M) (hx : -M ≤ x ∧ x ≤ M) (hu : -M ≤ u ∧ u ≤ M) : (-(9 * M) ≤ p * x ∧ p * x ≤ 9 * M) ∧ (-(9 * M) ≤ q * u ∧ q * u ≤ 9 * M) :=
  ⟨mulbd hp hx (by omega) hM, mulbd hq hu (by omega) hM⟩

end Go.Proofs.Ytdlmdaononclgaa
