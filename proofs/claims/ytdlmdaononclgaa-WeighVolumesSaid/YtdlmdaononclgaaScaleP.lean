import Derived.Test.YtdlmdaononclgaaSumP
/- Plain: weights of positions that are moved, or n times as great. -/
namespace Go.Proofs.Ytdlmdaononclgaa
open Go.RowKit
set_option linter.unusedVariables false
set_option linter.unusedSimpArgs false

theorem ix_map {g : Int → Int} {xs : List Int} {j : Nat} (h : j < xs.length) : ix (xs.map g) j = g (ix xs j) := by
  simp [ix, List.getD, List.getElem?_eq_getElem h]
theorem ix_map_zero {g : Int → Int} (hg : g 0 = 0) (xs : List Int) (j : Nat) : ix (xs.map g) j = g (ix xs j) := by
  by_cases h : j < xs.length
  · exact ix_map h
  · rw [ix_out (by simp; omega), ix_out (by omega), hg]
theorem ratioZ_scale {n : Int} (hn : 0 < n) (h k : Int) : ratioZ (n * h) (n * k) = ratioZ h k := by
  unfold ratioZ
  rw [Int.mul_emod_mul_of_pos _ _ hn, Int.mul_ediv_mul_of_pos _ _ hn]
  have : n * (k % h) = 0 ↔ k % h = 0 := by
    rw [Int.mul_eq_zero]
    exact ⟨fun x => x.resolve_left (by omega), Or.inr⟩
  simp only [this]
theorem pairB_scale {n : Int} (hn : 0 < n) (a b : Int) : pairB (n * a) (n * b) = pairB a b := by
  unfold pairB; rw [ratioZ_scale hn, ratioZ_scale hn]
theorem manyN_scale {xs ys : List Int} {n : Int} (hn : 0 < n) (hl : ys.length = xs.length) (hd : ∀ j, j + 1 < xs.length → dx ys j = n * dx xs j) (i : Nat) : manyN ys i = manyN xs i := by
  unfold manyN
  rw [hl]
  by_cases h : i + 2 < xs.length
  · have e1 := hd i (by omega)
    have e2 := hd (i + 1) (by omega)
    simp only [dx] at e1 e2
    rw [e1, show i + 1 + 1 = i + 2 from rfl] at *
    rw [e2, pairB_scale hn]
  · rw [if_neg (fun x => h x.1), if_neg (fun x => h x.1)]
theorem grp_scale {xs ys : List Int} (hl : ys.length = xs.length) (hm : ∀ i, manyN ys i = manyN xs i) : ∀ f i, grp ys f i = grp xs f i
  | 0, _ => rfl
  | f + 1, i => by rw [grp, grp, hl, hm, grp_scale hl hm f]
theorem grpW_scale {n : Int} (hn : 0 < n) (a b : Int) : grpW (n * a) (n * b) = (grpW a b).map (n * ·) := by
  have k : ∀ x y : Int, n * x = n * y ↔ x = y := fun x y => ⟨fun h => Int.eq_of_mul_eq_mul_left (by omega) h, fun h => by rw [h]⟩
  have e2 : ∀ x : Int, 2 * (n * x) = n * (2 * x) := fun x => by grind
  have e3 : ∀ x : Int, 3 * (n * x) = n * (3 * x) := fun x => by grind
  unfold grpW
  simp only [e2, e3, k]
  (repeat' split) <;> simp only [List.map_cons, List.map_nil, List.cons.injEq, and_true] <;> (refine ⟨?_, ?_, ?_⟩ <;> grind)
theorem addK_scale (n : Int) (cur : List Int) (fr : Nat) (ws : List Int) : ∀ m, addK (cur.map (n * ·)) fr (ws.map (n * ·)) m = (addK cur fr ws m).map (n * ·)
  | 0 => rfl
  | m + 1 => by
    have z : n * 0 = 0 := by omega
    rw [addK, addK, addK_scale n cur fr ws m, List.map_set, ix_map_zero (g := (n * ·)) z, ix_map_zero (g := (n * ·)) z]
    congr 1; grind
theorem addG_scale {xs ys : List Int} {n : Int} (hn : 0 < n) (hd : ∀ j, j + 1 < xs.length → dx ys j = n * dx xs j) {p : Int × Int} (hp : p.1.toNat + 1 < xs.length) (hp2 : p.2 ≠ 1 → p.1.toNat + 2 < xs.length) (acc : List Int) :
    addG ys (acc.map (n * ·)) p = (addG xs acc p).map (n * ·) := by
  unfold addG
  by_cases h : p.2 = 1
  · rw [if_pos h, if_pos h, ← addK_scale, hd _ hp]
    simp only [List.map_cons, List.map_nil]
    rw [show 18 * (n * dx xs p.1.toNat) = n * (18 * dx xs p.1.toNat) by grind]
  · have h2 := hp2 h
    rw [if_neg h, if_neg h, ← addK_scale, hd _ hp, hd _ (by omega), grpW_scale hn]
theorem fold_scale {xs ys : List Int} {n : Int} (hn : 0 < n) (hd : ∀ j, j + 1 < xs.length → dx ys j = n * dx xs j) : ∀ (l : List (Int × Int)) (acc : List Int), (∀ p ∈ l, p.1.toNat + 1 < xs.length ∧ (p.2 ≠ 1 → p.1.toNat + 2 < xs.length)) →
    l.foldl (addG ys) (acc.map (n * ·)) = (l.foldl (addG xs) acc).map (n * ·)
  | [], _, _ => rfl
  | p :: l, acc, h => by
    have hp := h p List.mem_cons_self
    rw [List.foldl_cons, List.foldl_cons, addG_scale hn hd hp.1 hp.2, fold_scale hn hd l _ (fun q hq => h q (List.mem_cons_of_mem _ hq))]
theorem weightsZ_scale {xs ys : List Int} {n : Int} (hn : 0 < n) (hl : ys.length = xs.length) (hd : ∀ j, j + 1 < xs.length → dx ys j = n * dx xs j) : weightsZ ys = (weightsZ xs).map (n * ·) := by
  have hg : groupsZ ys = groupsZ xs := by unfold groupsZ; rw [hl, grp_scale hl (manyN_scale hn hl hd)]
  have hz : List.replicate ys.length (0 : Int) = (List.replicate xs.length 0).map (n * ·) := by simp [hl]
  rw [weightsZ_fold, weightsZ_fold, hg, hz]
  refine fold_scale hn hd _ _ (fun p hp => ?_)
  obtain ⟨t, ht, rfl⟩ := List.getElem_of_mem hp
  obtain ⟨j, hj, ⟨e, _⟩ | ⟨e, _, h2, _⟩⟩ := group_at (i := t) (List.getElem?_eq_getElem ht)
  · rw [e]; simp; exact hj
  · rw [e]; simp; exact ⟨hj, h2⟩
theorem weightsZ_move {xs ys : List Int} (hl : ys.length = xs.length) (hd : ∀ j, j + 1 < xs.length → dx ys j = dx xs j) : weightsZ ys = weightsZ xs := by
  rw [weightsZ_scale (n := 1) (by omega) hl (fun j hj => by rw [hd j hj]; omega)]
  simp

/-- moved, and stretched. -/
theorem dx_move (xs : List Int) (by' : Int) {j : Nat} (hj : j + 1 < xs.length) : dx (xs.map (· + by')) j = dx xs j := by
  unfold dx; rw [ix_map (by omega), ix_map (by omega)]; omega
theorem dx_stretch (xs : List Int) (n : Int) {j : Nat} (hj : j + 1 < xs.length) : dx (xs.map (· * n)) j = n * dx xs j := by
  unfold dx; rw [ix_map (by omega), ix_map (by omega)]; grind

end Go.Proofs.Ytdlmdaononclgaa
