import Derived.Test.YtjflgemfeofciaaGreatDoorGr4
import Derived.Test.YtjflgemfeofciaaGreatDoorVb4
import Derived.Test.YtjflgemfeofciaaGreatDoorQu4
import Derived.Test.YtjflgemfeofciaaGreatDoorMX3
/- Layer 4: the plan of a version. -/
namespace Go.Proofs.YtjflgemfeofciaaGreatDoor
open Go Go.Ev
set_option linter.unusedVariables false
set_option linter.unusedSimpArgs false
set_option maxRecDepth 10000
def intC (n : Int) : List V := [.i .i64 n]
theorem grpF_bd {r : Room} : ∀ {l : List Put} {k : Nat}, l.all Put.ok = true → 0 ≤ (grpF r l k).1 ∧ (grpF r l k).1 ≤ 5
  | [], k, h => by unfold grpF; simp
  | p :: l, k, h => by
    rw [List.all_cons, Bool.and_eq_true] at h
    unfold grpF
    split
    · have := h.1
      unfold Put.ok within at this
      simp only [Bool.and_eq_true, decide_eq_true_eq] at this
      exact this.1
    · exact grpF_bd h.2
theorem grp_bd {v : Version} (h : v.puts.all Put.ok = true) (r : Room) : 0 ≤ (grp v r).1 ∧ (grp v r).1 ≤ 5 := grpF_bd h
theorem ixg {n : Int} (h : 0 ≤ n ∧ n ≤ 5) (h0 : ¬ n = 0) : 0 ≤ n - 1 ∧ n - 1 < 5 := by omega
/-- the Ids of the rooms of a group; their litres. -/
def idsI (v : Version) (i : Nat) (l : List Room) : List Int := (l.filter fun r => decide ((grp v r).1 = (i : Int))).map Room.id
def litI (v : Version) (f : Room → Int) (i : Nat) (l : List Room) : Int := l.foldl (fun a r => if (grp v r).1 = (i : Int) then wadd a (f r) else a) 0
def upd {α : Type} (f : Nat → α) (i : Nat) (a : α) : Nat → α := fun j => bif Nat.beq j i then a else f j
structure PS where
  k : Nat
  rv : Nat → V
  lo : Nat → Int
  hi : Nat → Int
  ids : Nat → List V
def PS.init : PS := ⟨0, fun _ => .sn, fun _ => 0, fun _ => 0, fun _ => []⟩
structure PSok (v : Version) (l : List Room) (x : PS) : Prop where
  hk : x.k ≤ l.length
  ids : ∀ i, x.ids i = (idsI v i (l.take x.k)).flatMap intC
  lo : ∀ i, 0 < i → x.lo i = litI v Room.lo i (l.take x.k)
  hi : ∀ i, 0 < i → x.hi i = litI v Room.hi i (l.take x.k)
  av : ∀ i, Av (x.rv i)
theorem PSok.init (v : Version) (l : List Room) : PSok v l .init := ⟨Nat.zero_le _, fun _ => rfl, fun _ _ => rfl, fun _ _ => rfl, fun _ => .nil⟩
theorem take_s {α : Type} {l : List α} {k : Nat} {y : α} (h : l[k]? = some y) : l.take (k + 1) = l.take k ++ [y] := by
  rw [List.take_add_one, h]; rfl
theorem idsI_s {v : Version} {i : Nat} {l : List Room} {k : Nat} {y : Room} (h : l[k]? = some y) : idsI v i (l.take (k + 1)) = idsI v i (l.take k) ++ if (grp v y).1 = (i : Int) then [y.id] else [] := by
  unfold idsI
  rw [take_s h, List.filter_append, List.map_append]
  congr 1
  by_cases e : (grp v y).1 = (i : Int) <;> simp [e]
theorem litI_s {v : Version} {f : Room → Int} {i : Nat} {l : List Room} {k : Nat} {y : Room} (h : l[k]? = some y) : litI v f i (l.take (k + 1)) = if (grp v y).1 = (i : Int) then wadd (litI v f i (l.take k)) (f y) else litI v f i (l.take k) := by
  unfold litI
  rw [take_s h, List.foldl_append]
  rfl
theorem upd_at {α : Type} {f : Nat → α} {q j : Nat} {a : α} : upd f q a j = if j = q then a else f j := by
  unfold upd
  by_cases e : j = q
  · rw [if_pos e, e, Nat.beq_refl]; rfl
  · rw [if_neg e]
    have : Nat.beq j q = false := by
      cases h : Nat.beq j q with
      | false => rfl
      | true => exact absurd (Nat.eq_of_beq_eq_true h) e
    rw [this]; rfl
theorem PSok.step0 {v : Version} {l : List Room} {x : PS} {y : Room} {w : V} (h : PSok v l x) (hy : l[x.k]? = some y) (hq : (grp v y).1 = 0) (hw : Av w) : PSok v l ⟨x.k + 1, upd x.rv 0 w, x.lo, x.hi, upd x.ids 0 (x.ids 0 ++ [.i .i64 y.id])⟩ := by
  refine ⟨(List.getElem?_eq_some_iff.1 hy).1, fun i => ?_, fun i hi => ?_, fun i hi => ?_, fun i => ?_⟩
  · simp only [upd_at, idsI_s hy, List.flatMap_append, ← h.ids]
    by_cases e : i = 0
    · subst e; rw [if_pos rfl, if_pos (by rw [hq]; rfl)]; rfl
    · rw [if_neg e, if_neg (by rw [hq]; omega)]; simp
  · rw [litI_s hy, if_neg (by rw [hq]; omega)]; exact h.lo i hi
  · rw [litI_s hy, if_neg (by rw [hq]; omega)]; exact h.hi i hi
  · simp only [upd_at]; split
    · exact hw
    · exact h.av i
theorem PSok.stepq {v : Version} {l : List Room} {x : PS} {y : Room} {w : V} {q : Nat} (h : PSok v l x) (hy : l[x.k]? = some y) (hq : (grp v y).1 = (q : Int)) (h0 : 0 < q) (hw : Av w) : PSok v l ⟨x.k + 1, upd x.rv q w, upd x.lo q (wadd (x.lo q) y.lo), upd x.hi q (wadd (x.hi q) y.hi), upd x.ids q (x.ids q ++ [.i .i64 y.id])⟩ := by
  refine ⟨(List.getElem?_eq_some_iff.1 hy).1, fun i => ?_, fun i hi => ?_, fun i hi => ?_, fun i => ?_⟩
  · simp only [upd_at, idsI_s hy, List.flatMap_append, ← h.ids]
    by_cases e : i = q
    · subst e; rw [if_pos rfl, if_pos hq]; rfl
    · rw [if_neg e, if_neg (by rw [hq]; omega)]; simp
  · simp only [upd_at, litI_s hy, ← h.lo i hi]
    by_cases e : i = q
    · subst e; rw [if_pos rfl, if_pos hq]
    · rw [if_neg e, if_neg (by rw [hq]; omega)]
  · simp only [upd_at, litI_s hy, ← h.hi i hi]
    by_cases e : i = q
    · subst e; rw [if_pos rfl, if_pos hq]
    · rw [if_neg e, if_neg (by rw [hq]; omega)]
  · simp only [upd_at]; split
    · exact hw
    · exact h.av i
theorem idsI_len (v : Version) (i : Nat) (l : List Room) : (idsI v i l).length ≤ l.length := by unfold idsI; rw [List.length_map]; exact List.length_filter_le _ _
/-- a plan in memory. -/
def PlanR (g : G) (cs : List V) (idx : Int) (v : Version) (l : List Room) : Prop := ∃ rv : Nat → V, cs = [.i .i64 idx, .i .i64 1, rv 1, .i .i64 (litI v Room.lo 1 l), .i .i64 (litI v Room.hi 1 l), .i .i64 2, rv 2, .i .i64 (litI v Room.lo 2 l), .i .i64 (litI v Room.hi 2 l), .i .i64 3, rv 3, .i .i64 (litI v Room.lo 3 l), .i .i64 (litI v Room.hi 3 l), .i .i64 4, rv 4, .i .i64 (litI v Room.lo 4 l), .i .i64 (litI v Room.hi 4 l), .i .i64 5, rv 5, .i .i64 (litI v Room.lo 5 l), .i .i64 (litI v Room.hi 5 l), rv 0] ∧ ∀ i, i < 6 → RS IntR 1 g (rv i) (idsI v i l)
theorem PSok.app {v : Version} {l : List Room} {x : PS} (h : PSok v l x) (hl : l.length ≤ 20) {i : Nat} {new : List V} (hn : new.length = 1) : (x.ids i).length + new.length ≤ 1000000 * 1 := by
  rw [h.ids, flat_len (f := intC) (s := 1) (fun _ => rfl), hn]
  have := idsI_len v i (l.take x.k)
  rw [List.length_take] at this
  omega
theorem PSok.tk {v : Version} {l : List Room} {x : PS} (h : PSok v l x) (hk : l.length ≤ x.k) : l.take x.k = l := List.take_of_length_le hk
theorem PSok.fin {v : Version} {l : List Room} {x : PS} (h : PSok v l x) (hk : l.length ≤ x.k) (i : Nat) : x.ids i = (idsI v i l).flatMap intC := by rw [h.ids, h.tk hk]
theorem idsI_le {l : List Room} (hl : l.length ≤ 20) (v : Version) (i : Nat) : (idsI v i l).length ≤ 9223372036854775807 := Nat.le_trans (idsI_len v i l) (by omega)
theorem planR_of {v : Version} {l : List Room} {x : PS} {g : G} (idx : Int) (h : PSok v l x) (hk : l.length ≤ x.k) (h0 : RS IntR 1 g (x.rv 0) (idsI v 0 l)) (h1 : RS IntR 1 g (x.rv 1) (idsI v 1 l)) (h2 : RS IntR 1 g (x.rv 2) (idsI v 2 l)) (h3 : RS IntR 1 g (x.rv 3) (idsI v 3 l)) (h4 : RS IntR 1 g (x.rv 4) (idsI v 4 l)) (h5 : RS IntR 1 g (x.rv 5) (idsI v 5 l)) :
    PlanR g [.i .i64 idx, .i .i64 1, x.rv 1, .i .i64 (x.lo 1), .i .i64 (x.hi 1), .i .i64 2, x.rv 2, .i .i64 (x.lo 2), .i .i64 (x.hi 2), .i .i64 3, x.rv 3, .i .i64 (x.lo 3), .i .i64 (x.hi 3), .i .i64 4, x.rv 4, .i .i64 (x.lo 4), .i .i64 (x.hi 4), .i .i64 5, x.rv 5, .i .i64 (x.lo 5), .i .i64 (x.hi 5), x.rv 0] idx v l := by
  refine ⟨x.rv, ?_, fun i hi => ?_⟩
  · rw [h.lo 1 (by decide), h.lo 2 (by decide), h.lo 3 (by decide), h.lo 4 (by decide), h.lo 5 (by decide), h.hi 1 (by decide), h.hi 2 (by decide), h.hi 3 (by decide), h.hi 4 (by decide), h.hi 5 (by decide), h.tk hk]
  · match i, hi with
    | 0, _ => exact h0
    | 1, _ => exact h1
    | 2, _ => exact h2
    | 3, _ => exact h3
    | 4, _ => exact h4
    | 5, _ => exact h5
    | n + 6, hi => omega
end Go.Proofs.YtjflgemfeofciaaGreatDoor

/- Layer 4: the plan of a version, by package code. -/
namespace Go.Proofs.YtjflgemfeofciaaGreatDoor
open Go Go.Ev
set_option linter.unusedVariables false
set_option linter.unusedSimpArgs false
set_option maxRecDepth 10000
end Go.Proofs.YtjflgemfeofciaaGreatDoor
