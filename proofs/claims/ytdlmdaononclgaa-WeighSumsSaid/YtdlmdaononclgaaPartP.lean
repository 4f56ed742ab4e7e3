import Derived.Test.YtdlmdaononclgaaExactP
import Derived.Test.YtdlmdaononclgaaVolP2
/- Plain: positions that are parted. -/
namespace Go.Proofs.Ytdlmdaononclgaa
open Go.RowKit
set_option linter.unusedVariables false
set_option linter.unusedSimpArgs false

def shiftG (d : Int) (gs : List (Int × Int)) : List (Int × Int) := gs.map fun p => (p.1 + d, p.2)
/-- whether the groups of two lists, one behind the other, are those of a third. -/
def agreeB (a b all : List Int) : Bool := decide (groupsZ a ++ shiftG ((a.length : Int) - 1) (groupsZ b) = groupsZ all)

/-- what the groups add. -/
def gss (xs : List Int) (f : Nat → Int) : List (Int × Int) → Int
  | [] => 0
  | p :: l => gsum xs f p + gss xs f l
theorem gss_append (xs : List Int) (f : Nat → Int) : ∀ l m, gss xs f (l ++ m) = gss xs f l + gss xs f m
  | [], m => by simp [gss]
  | p :: l, m => by rw [List.cons_append, gss, gss, gss_append xs f l m]; omega
theorem groups_ok (xs : List Int) : ∀ p ∈ groupsZ xs, ∃ (j : Nat) (m : Int), p = ((j : Int), m) ∧ j + 1 < xs.length ∧ (m ≠ 1 → j + 2 < xs.length) := fun p hp => by
  obtain ⟨i, hi, e⟩ := List.getElem_of_mem hp
  obtain ⟨j, hj, h⟩ := group_at (xs := xs) (i := i) (x := p) (by rw [List.getElem?_eq_getElem hi, e])
  rcases h with ⟨rfl, _⟩ | ⟨rfl, _, h2, _⟩
  · exact ⟨j, 1, rfl, hj, fun h => absurd rfl h⟩
  · exact ⟨j, 2, rfl, hj, fun _ => h2⟩
theorem sm_gss {xs : List Int} (f : Nat → Int) : ∀ (l : List (Int × Int)) (acc : List Int), acc.length = xs.length → (∀ p ∈ l, ∃ (j : Nat) (m : Int), p = ((j : Int), m) ∧ j + 1 < xs.length ∧ (m ≠ 1 → j + 2 < xs.length)) →
    sm (l.foldl (addG xs) acc) f xs.length = sm acc f xs.length + gss xs f l
  | [], acc, _, _ => by simp [gss]
  | p :: l, acc, ha, h => by
    obtain ⟨j, m, rfl, hj, hm⟩ := h p List.mem_cons_self
    rw [List.foldl_cons, sm_gss f l _ (by rw [addG_length]; exact ha) (fun q hq => h q (List.mem_cons_of_mem _ hq)), sm_addG f hj hm ha, gss]
    omega
theorem sm_groups (xs : List Int) (f : Nat → Int) : sm (weightsZ xs) f xs.length = gss xs f (groupsZ xs) := by
  rw [weightsZ_fold, sm_gss f _ _ (by simp) (groups_ok xs), sm_zero]; omega

theorem gsum_congr {xs ys : List Int} {f g : Nat → Int} {j k : Nat} {m : Int} (h1 : dx xs j = dx ys k) (h2 : m ≠ 1 → dx xs (j + 1) = dx ys (k + 1)) (hf : ∀ i, i ≤ 1 → f (j + i) = g (k + i)) (hf2 : m ≠ 1 → f (j + 2) = g (k + 2)) :
    gsum xs f ((j : Int), m) = gsum ys g ((k : Int), m) := by
  unfold gsum
  simp only [Int.toNat_natCast]
  split
  · rw [h1]; exact sm_congr' (fun i hi => hf i (by omega))
  · rename_i hm
    rw [h1, h2 hm]
    exact sm_congr' (fun i hi => by
      by_cases e : i = 2
      · subst e; exact hf2 hm
      · exact hf i (by omega))
theorem gss_congr {xs ys : List Int} {f g : Nat → Int} {d : Nat} : ∀ (l : List (Int × Int)), (∀ p ∈ l, ∃ (j : Nat) (m : Int), p = ((j : Int), m) ∧ gsum xs f ((j : Int), m) = gsum ys g (((j + d : Nat) : Int), m)) → gss xs f l = gss ys g (shiftG d l)
  | [], _ => rfl
  | p :: l, h => by
    obtain ⟨j, m, rfl, e⟩ := h p List.mem_cons_self
    rw [gss, e, gss_congr l (fun q hq => h q (List.mem_cons_of_mem _ hq))]
    rfl
theorem ix_take {l : List Int} {n j : Nat} (h : j < n) : ix (l.take n) j = ix l j := by
  simp only [ix, List.getD_eq_getElem?_getD, List.getElem?_take]; rw [if_pos h]
theorem ix_drop (l : List Int) (n j : Nat) : ix (l.drop n) j = ix l (n + j) := by
  simp only [ix, List.getD_eq_getElem?_getD, List.getElem?_drop]
theorem shiftG_zero (l : List (Int × Int)) : shiftG 0 l = l := by
  unfold shiftG; simp
/-- where positions are parted, sums with their weights add up. -/
theorem parted {l : List Int} {n : Nat} (hn : n + 1 ≤ l.length) (h : agreeB (l.take (n + 1)) (l.drop n) l = true) (f : Nat → Int) :
    sm (weightsZ l) f l.length = sm (weightsZ (l.take (n + 1))) f (l.take (n + 1)).length + sm (weightsZ (l.drop n)) (fun j => f (n + j)) (l.drop n).length := by
  have hl : (l.take (n + 1)).length = n + 1 := by rw [List.length_take]; omega
  have hl2 : (l.drop n).length = l.length - n := List.length_drop ..
  have h := of_decide_eq_true h
  rw [hl] at h
  rw [sm_groups, sm_groups, sm_groups, ← h, gss_append]
  congr 1
  · have e := gss_congr (xs := l.take (n + 1)) (ys := l) (f := f) (g := f) (d := 0) (groupsZ (l.take (n + 1))) (fun p hp => by
      obtain ⟨j, m, rfl, hj, hm⟩ := groups_ok _ p hp
      rw [hl] at hj hm
      refine ⟨j, m, rfl, gsum_congr ?_ (fun hm' => ?_) (fun i _ => rfl) (fun _ => rfl)⟩
      · unfold dx; rw [ix_take (by omega), ix_take (by omega)]; rfl
      · have := hm hm'
        unfold dx; rw [ix_take (by omega), ix_take (by omega)])
    rw [e]; rw [show ((0 : Nat) : Int) = 0 from rfl, shiftG_zero]
  · have e := gss_congr (xs := l.drop n) (ys := l) (f := fun j => f (n + j)) (g := f) (d := n) (groupsZ (l.drop n)) (fun p hp => by
      obtain ⟨j, m, rfl, hj, hm⟩ := groups_ok _ p hp
      refine ⟨j, m, rfl, gsum_congr ?_ (fun hm' => ?_) (fun i _ => ?_) (fun _ => ?_)⟩
      · unfold dx; rw [ix_drop, ix_drop, show n + (j + 1) = j + n + 1 from by omega, Nat.add_comm n j]
      · unfold dx; rw [ix_drop, ix_drop, show n + (j + 1 + 1) = j + n + 1 + 1 from by omega, show n + (j + 1) = j + n + 1 from by omega]
      · show f (n + (j + i)) = f (j + n + i); congr 1; omega
      · show f (n + (j + 2)) = f (j + n + 2); congr 1; omega)
    rw [e]
    congr 2
    omega
theorem parts_back (l : List Int) (n : Nat) (hn : n + 1 ≤ l.length) : l.take (n + 1) ++ (l.drop n).drop 1 = l := by
  rw [List.drop_drop]; exact List.take_append_drop _ _
theorem ok_take {many most : Int} {l : List Int} (hP : OkP many most l) {n : Nat} (h1 : 1 ≤ n) (hn : n + 1 ≤ l.length) : OkP many most (l.take (n + 1)) := by
  have hl : (l.take (n + 1)).length = n + 1 := by rw [List.length_take]; omega
  have := hP.many
  refine ⟨by omega, by omega, ?_, ?_, fun j hj => ?_⟩
  · rw [ix_take (by omega)]; exact hP.low
  · rw [hl, ix_take (by omega)]; exact hP.hi' _ (by omega)
  · rw [ix_take (by omega), ix_take (by omega)]; exact hP.inc j (by omega)
theorem ok_drop {many most : Int} {l : List Int} (hP : OkP many most l) {n : Nat} (hn : n + 2 ≤ l.length) : OkP many most (l.drop n) := by
  have hl : (l.drop n).length = l.length - n := List.length_drop ..
  have := hP.many
  refine ⟨by omega, by omega, ?_, ?_, fun j hj => ?_⟩
  · rw [ix_drop]; exact hP.lo _ (by omega)
  · rw [ix_drop]; exact hP.hi' _ (by omega)
  · rw [ix_drop, ix_drop]; exact hP.inc (n + j) (by omega)

end Go.Proofs.Ytdlmdaononclgaa
