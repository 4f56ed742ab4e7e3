import Derived.Test.YtdlmdaononclgaaWt2
/- Plain facts on groups and weights. -/
namespace Go.Proofs.Ytdlmdaononclgaa
open Go.RowKit
set_option linter.unusedVariables false
set_option linter.unusedSimpArgs false

/-- the weights of a group of two intervals d1, d2, of which one is 1, 2 or 3 times the other. -/
def grpW (d1 d2 : Int) : List Int :=
  if d1 = d2 then [12 * d1, 48 * d1, 12 * d1] else if d2 = 2 * d1 then [0, 81 * d1, 27 * d1] else if d2 = 3 * d1 then [-24 * d1, 128 * d1, 40 * d1]
  else if d1 = 2 * d2 then [27 * d2, 81 * d2, 0] else [40 * d2, 128 * d2, -24 * d2]
/-- the interval i. -/
def dx (xs : List Int) (i : Nat) : Int := ix xs (i + 1) - ix xs i
/-- what the group at interval i adds. -/
def addG (xs : List Int) (acc : List Int) (p : Int × Int) : List Int :=
  if p.2 = 1 then addK acc p.1.toNat [18 * dx xs p.1.toNat, 18 * dx xs p.1.toNat] 2
  else addK acc p.1.toNat (grpW (dx xs p.1.toNat) (dx xs (p.1.toNat + 1))) 3
/-- what the first i groups add up to. -/
def wtAcc (xs : List Int) (i : Nat) : List Int := ((groupsZ xs).take i).foldl (addG xs) (List.replicate xs.length 0)
def weightsZ (xs : List Int) : List Int := wtAcc xs (groupsZ xs).length

theorem wtAcc_zero (xs : List Int) : wtAcc xs 0 = List.replicate xs.length 0 := rfl
theorem wtAcc_succ {xs : List Int} {i : Nat} {x : Int × Int} (h : (groupsZ xs)[i]? = some x) : wtAcc xs (i + 1) = addG xs (wtAcc xs i) x := by
  unfold wtAcc
  rw [List.take_add_one, h]
  simp [List.foldl_append]
theorem addG_length (xs acc : List Int) (p : Int × Int) : (addG xs acc p).length = acc.length := by
  unfold addG; split <;> rw [addK_length]
theorem wtAcc_length (xs : List Int) (i : Nat) : (wtAcc xs i).length = xs.length := by
  unfold wtAcc
  generalize (groupsZ xs).take i = l
  have : ∀ (l : List (Int × Int)) (acc : List Int), acc.length = xs.length → (l.foldl (addG xs) acc).length = xs.length := by
    intro l
    induction l with
    | nil => intro acc h; exact h
    | cons p l ih => intro acc h; exact ih _ (by rw [addG_length]; exact h)
  exact this l _ (by simp)

/-- every group is one of an interval. -/
theorem grp_mem {xs : List Int} : ∀ (f i k : Nat) (x : Int × Int), (grp xs f i)[k]? = some x → ∃ j : Nat, x = ((j : Int), (manyN xs j : Int)) ∧ j + 1 < xs.length
  | 0, _, _, _, h => by simp [grp] at h
  | f + 1, i, k, x, h => by
    rw [grp] at h
    split at h
    · rename_i hi
      cases k with
      | zero => simp at h; exact ⟨i, h.symm, hi⟩
      | succ k => simp at h; exact grp_mem f _ k x h
    · simp at h
theorem manyN_cases (xs : List Int) (j : Nat) : manyN xs j = 1 ∨ (manyN xs j = 2 ∧ j + 2 < xs.length ∧ pairB (dx xs j) (dx xs (j + 1)) = true) := by
  unfold manyN
  split
  · rename_i h; exact .inr ⟨rfl, h.1, h.2⟩
  · exact .inl rfl
theorem group_at {xs : List Int} {i : Nat} {x : Int × Int} (h : (groupsZ xs)[i]? = some x) :
    ∃ j : Nat, j + 1 < xs.length ∧ ((x = ((j : Int), 1) ∧ manyN xs j = 1) ∨ (x = ((j : Int), 2) ∧ manyN xs j = 2 ∧ j + 2 < xs.length ∧ pairB (dx xs j) (dx xs (j + 1)) = true)) := by
  obtain ⟨j, hx, hj⟩ := grp_mem _ _ _ _ h
  refine ⟨j, hj, ?_⟩
  rcases manyN_cases xs j with h1 | ⟨h2, h3, h4⟩
  · left; rw [h1] at hx; exact ⟨hx, h1⟩
  · right; rw [h2] at hx; exact ⟨hx, h2, h3, h4⟩

/-- a fit pair: which of the five. -/
theorem pair_cases {a b : Int} (ha : 0 < a) (hb : 0 < b) (h : pairB a b = true) : (a = b ∧ ratioZ a b = 1 ∧ ratioZ b a = 1) ∨ (b = 2 * a ∧ ratioZ a b = 2 ∧ ratioZ b a = 0) ∨ (b = 3 * a ∧ ratioZ a b = 3 ∧ ratioZ b a = 0) ∨
    (a = 2 * b ∧ ratioZ a b = 0 ∧ ratioZ b a = 2) ∨ (a = 3 * b ∧ ratioZ a b = 0 ∧ ratioZ b a = 3) := by
  have key : ∀ {a b : Int}, 0 < a → 0 < b → 0 < ratioZ a b → (b = a ∧ ratioZ a b = 1) ∨ (b = 2 * a ∧ ratioZ a b = 2) ∨ (b = 3 * a ∧ ratioZ a b = 3) := by
    intro a b ha hb h
    unfold ratioZ at h ⊢
    split at h
    · rename_i hc
      rw [if_pos hc]
      have e := Int.mul_ediv_add_emod b a
      rw [hc.1] at e
      have e3 := hc.2
      generalize b / a = q at *
      rcases (by omega : q = 1 ∨ q = 2 ∨ q = 3) with rfl | rfl | rfl
      · left; exact ⟨by omega, rfl⟩
      · right; left; exact ⟨by omega, rfl⟩
      · right; right; exact ⟨by omega, rfl⟩
    · omega
  have zero : ∀ {a b : Int}, 0 < a → a < b → ratioZ b a = 0 := by
    intro a b ha hab
    unfold ratioZ
    rw [Int.emod_eq_of_lt (by omega) hab, if_neg (by omega)]
  have one : ∀ {a : Int}, 0 < a → ratioZ a a = 1 := by
    intro a ha
    unfold ratioZ
    rw [Int.emod_self, Int.ediv_self (by omega), if_pos (by omega)]
  simp only [pairB, Bool.or_eq_true, decide_eq_true_eq] at h
  rcases h with h | h
  · rcases key ha hb h with ⟨e, r⟩ | ⟨e, r⟩ | ⟨e, r⟩
    · subst e; exact .inl ⟨rfl, r, r⟩
    · exact .inr (.inl ⟨e, r, zero ha (by omega)⟩)
    · exact .inr (.inr (.inl ⟨e, r, zero ha (by omega)⟩))
  · rcases key hb ha h with ⟨e, r⟩ | ⟨e, r⟩ | ⟨e, r⟩
    · subst e; exact .inl ⟨rfl, r, r⟩
    · exact .inr (.inr (.inr (.inl ⟨e, zero hb (by omega), r⟩)))
    · exact .inr (.inr (.inr (.inr ⟨e, zero hb (by omega), r⟩)))

theorem grpW_1 (a : Int) : grpW a a = [12 * a, 48 * a, 12 * a] := if_pos rfl
theorem grpW_2 {a : Int} (h : 0 < a) : grpW a (2 * a) = [0, 81 * a, 27 * a] := by rw [grpW, if_neg (by omega), if_pos rfl]
theorem grpW_3 {a : Int} (h : 0 < a) : grpW a (3 * a) = [-24 * a, 128 * a, 40 * a] := by rw [grpW, if_neg (by omega), if_neg (by omega), if_pos rfl]
theorem grpW_4 {a : Int} (h : 0 < a) : grpW (2 * a) a = [27 * a, 81 * a, 0] := by rw [grpW, if_neg (by omega), if_neg (by omega), if_neg (by omega), if_pos rfl]
theorem grpW_5 {a : Int} (h : 0 < a) : grpW (3 * a) a = [40 * a, 128 * a, -24 * a] := by rw [grpW, if_neg (by omega), if_neg (by omega), if_neg (by omega), if_neg (by omega)]

/-- what is added, cell by cell. -/
theorem addK_ix (cur : List Int) (fr : Nat) (ws : List Int) : ∀ (k : Nat), fr + k ≤ cur.length → ∀ j, ix (addK cur fr ws k) j = if fr ≤ j ∧ j < fr + k then ix cur j + ix ws (j - fr) else ix cur j
  | 0, _, j => by rw [if_neg (by omega)]; rfl
  | k + 1, h, j => by
    have ih := addK_ix cur fr ws k (by omega) j
    rw [addK]
    by_cases e : j = fr + k
    · subst e
      rw [if_pos (by omega), show fr + k - fr = k by omega]
      simp only [ix, List.getD]
      rw [List.getElem?_set_self (by rw [addK_length]; omega)]
      rfl
    · have : ix ((addK cur fr ws k).set (fr + k) (ix cur (fr + k) + ix ws k)) j = ix (addK cur fr ws k) j := by
        simp only [ix, List.getD]
        rw [List.getElem?_set_ne (by omega)]
      rw [this, ih]
      by_cases hc : fr ≤ j ∧ j < fr + k
      · rw [if_pos hc, if_pos (by omega)]
      · rw [if_neg hc, if_neg (by omega)]

theorem ix_out {xs : List Int} {j : Nat} (h : xs.length ≤ j) : ix xs j = 0 := by simp [ix, List.getD, List.getElem?_eq_none h]
theorem ix_nil (j : Nat) : ix [] j = 0 := ix_out (Nat.zero_le _)
theorem ix_cons_zero (a : Int) (l : List Int) : ix (a :: l) 0 = a := rfl
theorem ix_cons_succ (a : Int) (l : List Int) (j : Nat) : ix (a :: l) (j + 1) = ix l j := rfl
theorem ix3_bd {a b c M : Int} (ha : -M ≤ a ∧ a ≤ M) (hb : -M ≤ b ∧ b ≤ M) (hc : -M ≤ c ∧ c ≤ M) (hM : 0 ≤ M) (j : Nat) : -M ≤ ix [a, b, c] j ∧ ix [a, b, c] j ≤ M := by
  match j with
  | 0 => exact ha
  | 1 => exact hb
  | 2 => exact hc
  | j + 3 => rw [ix_out (by simp)]; omega
theorem ix2_bd {a b M : Int} (ha : -M ≤ a ∧ a ≤ M) (hb : -M ≤ b ∧ b ≤ M) (hM : 0 ≤ M) (j : Nat) : -M ≤ ix [a, b] j ∧ ix [a, b] j ≤ M := by
  match j with
  | 0 => exact ha
  | 1 => exact hb
  | j + 2 => rw [ix_out (by simp)]; omega

theorem grpW_bd {a b : Int} (ha : 0 < a) (hb : 0 < b) (ha1 : a ≤ 100000) (hb1 : b ≤ 100000) (h : pairB a b = true) (j : Nat) : -20000000 ≤ ix (grpW a b) j ∧ ix (grpW a b) j ≤ 20000000 := by
  rcases pair_cases ha hb h with ⟨e, _⟩ | ⟨e, _⟩ | ⟨e, _⟩ | ⟨e, _⟩ | ⟨e, _⟩ <;> subst e
  · rw [grpW_1]; exact ix3_bd (by omega) (by omega) (by omega) (by omega) j
  · rw [grpW_2 ha]; exact ix3_bd (by omega) (by omega) (by omega) (by omega) j
  · rw [grpW_3 ha]; exact ix3_bd (by omega) (by omega) (by omega) (by omega) j
  · rw [grpW_4 hb]; exact ix3_bd (by omega) (by omega) (by omega) (by omega) j
  · rw [grpW_5 hb]; exact ix3_bd (by omega) (by omega) (by omega) (by omega) j

/-- the sums stay small. -/
theorem wtAcc_bd {most : Int} {xs : List Int} (hP : OkP 9 most xs) (hm : most ≤ 100000) : ∀ (i : Nat), i ≤ (groupsZ xs).length → ∀ j, -(20000000 * (i : Int)) ≤ ix (wtAcc xs i) j ∧ ix (wtAcc xs i) j ≤ 20000000 * (i : Int)
  | 0, _, j => by
    rw [wtAcc_zero]
    have : ix (List.replicate xs.length 0) j = 0 := by
      by_cases h : j < xs.length
      · simp [ix, List.getD, List.getElem?_replicate, h]
      · exact ix_out (by simp; omega)
    rw [this]; omega
  | i + 1, h, j => by
    have ih := wtAcc_bd hP hm i (by omega) j
    obtain ⟨x, hx⟩ : ∃ x, (groupsZ xs)[i]? = some x := ⟨_, List.getElem?_eq_getElem (by omega)⟩
    rw [wtAcc_succ hx]
    obtain ⟨k, hk, ⟨rfl, _⟩ | ⟨rfl, _, hk2, hp⟩⟩ := group_at hx
    · have d := hP.dif k hk
      simp only [addG, if_true, Int.toNat_natCast]
      rw [addK_ix _ _ _ _ (by rw [wtAcc_length]; omega)]
      have b := ix2_bd (a := 18 * dx xs k) (b := 18 * dx xs k) (M := 20000000) (by unfold dx; omega) (by unfold dx; omega) (by omega) (j - k)
      split <;> omega
    · have d := hP.dif k hk
      have d2 := hP.dif (k + 1) (by omega)
      simp only [addG, Int.toNat_natCast]
      rw [if_neg (by omega), addK_ix _ _ _ _ (by rw [wtAcc_length]; omega)]
      have b := grpW_bd (a := dx xs k) (b := dx xs (k + 1)) (by unfold dx; omega) (by unfold dx; omega) (by unfold dx; omega) (by unfold dx; omega) hp (j - k)
      split <;> omega

theorem groups_length (xs : List Int) : (groupsZ xs).length ≤ xs.length := by
  have : ∀ f i, (grp xs f i).length ≤ f := by
    intro f
    induction f with
    | zero => intro i; simp [grp]
    | succ f ih => intro i; rw [grp]; split; (simp only [List.length_cons]; have := ih (i + manyN xs i); omega); simp
  exact this _ _

theorem Arr.rd {w : World} {g : Nat} {xs : List Int} (h : Arr w g xs) : RD w (g + 1) (some ⟨g, 0, none⟩) (ints xs) :=
  .inr ⟨g, 0, rfl, by omega, fun j v hv => by rw [Nat.zero_add, cell_of_row w g j _ _ _ h, List.getElem?_toArray]; exact hv⟩
theorem Arr.built (W : World) (xs : List Int) : Arr (W.alloc (.cells (ints xs).toArray 3)) W.heap.size xs := heap_alloc_new W _

theorem add_at {sb g n cap m : Nat} {cur : List Int} (ws : List Int) {fr : Nat} {A : Option Addr} {c B : Nat} {w : World} (hm : ws.length = m)
    (hs : w.cell? ⟨sb, 0, none⟩ = some (.slice (some ⟨g, 0, none⟩) n cap)) (hn : n = cur.length) (hne : sb ≠ g) (hbg : ∀ b off, A = some ⟨b, off, none⟩ → b ≠ g)
    (ha : Arr w g cur) (hw : RD w B A (ints ws)) (hl : fr + ws.length ≤ cur.length) (hcl : cur.length ≤ 9) (hcb : ∀ j, -1000000000 ≤ ix cur j ∧ ix cur j ≤ 1000000000) (hwb : ∀ j, -1000000000 ≤ ix ws j ∧ ix ws j ≤ 1000000000) :
    Calls Try.prog 95 #[.pointer (some ⟨sb, 0, none⟩), .int .i64 fr, .slice A m c] w fun e w' => e = .returned (.tuple #[]) ∧ Arr w' g (addK cur fr ws m) ∧ Only g w w' := by
  subst hm
  exact add_any sb g n cap cur ws fr A c B w hs hn hne hbg ha hw hl hcl hcb hwb

end Go.Proofs.Ytdlmdaononclgaa
