import Derived.Test.YtjflgemfeofciaaGreatDoorCk4
import Derived.Test.YtjflgemfeofciaaGreatDoorMX2
import Derived.Test.YtjflgemfeofciaaGreatDoorLawF
/- Layer 4: data that came in. -/
namespace Go.Proofs.YtjflgemfeofciaaGreatDoor
open Go Go.Ev Go.ChangeShapes Go.WideShapes
set_option linter.unusedVariables false
set_option linter.unusedSimpArgs false
set_option maxRecDepth 10000
section
variable {H : Type} {enc : TypeId × Value → H} {W : World} {cs : List Value}
theorem list2 {α : Type} {l : List α} (h : l.length = 2) : ∃ a b, l = [a, b] := by match l, h with | [a, b], _ => exact ⟨a, b, rfl⟩
theorem list3 {α : Type} {l : List α} (h : l.length = 3) : ∃ a b c, l = [a, b, c] := by match l, h with | [a, b, c], _ => exact ⟨a, b, c, rfl⟩
theorem list6 {α : Type} {l : List α} (h : l.length = 6) : ∃ a b c d e f, l = [a, b, c, d, e, f] := by match l, h with | [a, b, c, d, e, f], _ => exact ⟨a, b, c, d, e, f, rfl⟩
theorem list12 {α : Type} {l : List α} (h : l.length = 12) : ∃ a b c d e f g h i j k m, l = [a, b, c, d, e, f, g, h, i, j, k, m] := by match l, h with | [a, b, c, d, e, f, g, h, i, j, k, m], _ => exact ⟨a, b, c, d, e, f, g, h, i, j, k, m, rfl⟩
theorem list10 {α : Type} {l : List α} (h : l.length = 10) : ∃ a b c d e f g h i j, l = [a, b, c, d, e, f, g, h, i, j] := by match l, h with | [a, b, c, d, e, f, g, h, i, j], _ => exact ⟨a, b, c, d, e, f, g, h, i, j, rfl⟩
theorem list5 {α : Type} {l : List α} (h : l.length = 5) : ∃ a b c d e, l = [a, b, c, d, e] := by match l, h with | [a, b, c, d, e], _ => exact ⟨a, b, c, d, e, rfl⟩
theorem one_int {T : TypeId} {v : Value} (ht : Tryz.prog.underlying T = some (.int .i64)) (h : Tr enc Tryz.prog W T [v]) : ∃ n, v = .int .i64 n := by
  obtain ⟨n, h1, _⟩ := h.int ht
  exact ⟨n, by simpa using h1⟩
theorem open_test (h : Tr enc Tryz.prog W 172 cs) : ∃ t : Test, TestR (gW W) (aVs W.heap.size cs) t := by
  have hl := h.len (n := 3) Tryz.underlying172 (by kernel_rfl)
  have hf := h.fld Tryz.underlying172
  obtain ⟨a, b, c, rfl⟩ := list3 hl
  have h0 := hf 0 3 0 1 rfl (by kernel_rfl)
  have h1 := hf 1 3 1 1 rfl (by kernel_rfl)
  have h2 := hf 2 3 2 1 rfl (by kernel_rfl)
  obtain ⟨n0, rfl⟩ := one_int Tryz.underlying3 h0
  obtain ⟨n1, rfl⟩ := one_int Tryz.underlying3 h1
  obtain ⟨n2, rfl⟩ := one_int Tryz.underlying3 h2
  exact ⟨⟨n0, n1, n2⟩, by simp only [TestR, Test.v, aVs, aV]⟩
theorem open_piece (h : Tr enc Tryz.prog W 157 cs) : ∃ t : Piece, PieceR (gW W) (aVs W.heap.size cs) t := by
  have hl := h.len (n := 3) Tryz.underlying157 (by kernel_rfl)
  have hf := h.fld Tryz.underlying157
  obtain ⟨a, b, c, rfl⟩ := list3 hl
  have h0 := hf 0 3 0 1 rfl (by kernel_rfl)
  have h1 := hf 1 3 1 1 rfl (by kernel_rfl)
  have h2 := hf 2 3 2 1 rfl (by kernel_rfl)
  obtain ⟨n0, rfl⟩ := one_int Tryz.underlying3 h0
  obtain ⟨n1, rfl⟩ := one_int Tryz.underlying3 h1
  obtain ⟨n2, rfl⟩ := one_int Tryz.underlying3 h2
  exact ⟨⟨n0, n1, n2⟩, by simp only [PieceR, Piece.v, aVs, aV]⟩
theorem open_put (h : Tr enc Tryz.prog W 170 cs) : ∃ t : Put, PutR (gW W) (aVs W.heap.size cs) t := by
  have hl := h.len (n := 2) Tryz.underlying170 (by kernel_rfl)
  have hf := h.fld Tryz.underlying170
  obtain ⟨a, b, rfl⟩ := list2 hl
  have h0 := hf 0 3 0 1 rfl (by kernel_rfl)
  have h1 := hf 1 168 1 1 rfl (by kernel_rfl)
  obtain ⟨n0, rfl⟩ := one_int Tryz.underlying3 h0
  obtain ⟨v, l, e, hr⟩ := h1.rs (s := 3) (R := TestR) Tryz.underlying168 (by kernel_rfl) (by decide) fun cs h => open_test h
  have e : b = v := by simpa using e
  subst e
  exact ⟨⟨n0, l⟩, _, by simp only [aVs, aV], hr⟩
theorem open_lines (h : Tr enc Tryz.prog W 93 cs) : ∃ v l, cs = [v] ∧ RS PieceR 3 (gW W) (aV W.heap.size v) l := h.rs Tryz.underlying93 (by kernel_rfl) (by decide) fun cs h => open_piece h
theorem open_version (h : Tr enc Tryz.prog W 97 cs) : ∃ t : Version, VersionR (gW W) (aVs W.heap.size cs) t := by
  have hl := h.len (n := 12) Tryz.underlying97 (by kernel_rfl)
  have hf := h.fld Tryz.underlying97
  have h0 := hf 0 3 0 1 rfl (by kernel_rfl)
  have h1 := hf 1 92 1 1 rfl (by kernel_rfl)
  have h2 := hf 2 95 2 10 rfl (by kernel_rfl)
  have h3 : ∀ i j, i < 2 → j < 5 → ∃ v l, cs[2 + i * 5 + j]? = some v ∧ RS PieceR 3 (gW W) (aV W.heap.size v) l := fun i j hi hj => by
    have h4 := h2.elt Tryz.underlying95 (n := 5) (by kernel_rfl) i hi
    have h5 := h4.elt Tryz.underlying94 (n := 1) (by kernel_rfl) j hj
    obtain ⟨v, l, e, hr⟩ := open_lines h5
    refine ⟨v, l, ?_, hr⟩
    have e2 := congrArg (fun x => x[0]?) e
    simp only [List.getElem?_take, List.getElem?_drop, List.getElem?_cons_zero] at e2
    rw [if_pos (by omega), if_pos (by omega), if_pos (by omega)] at e2
    rw [← e2]
    congr 1
    omega
  obtain ⟨v0, l0, e0, r0⟩ := h3 0 0 (by omega) (by omega)
  obtain ⟨v1, l1, e1, r1⟩ := h3 0 1 (by omega) (by omega)
  obtain ⟨v2, l2, e2, r2⟩ := h3 0 2 (by omega) (by omega)
  obtain ⟨v3, l3, e3, r3⟩ := h3 0 3 (by omega) (by omega)
  obtain ⟨v4, l4, e4, r4⟩ := h3 0 4 (by omega) (by omega)
  obtain ⟨v5, l5, e5, r5⟩ := h3 1 0 (by omega) (by omega)
  obtain ⟨v6, l6, e6, r6⟩ := h3 1 1 (by omega) (by omega)
  obtain ⟨v7, l7, e7, r7⟩ := h3 1 2 (by omega) (by omega)
  obtain ⟨v8, l8, e8, r8⟩ := h3 1 3 (by omega) (by omega)
  obtain ⟨v9, l9, e9, r9⟩ := h3 1 4 (by omega) (by omega)
  clear h2 h3 hf
  obtain ⟨a, b, c0, c1, c2, c3, c4, c5, c6, c7, c8, c9, rfl⟩ := list12 hl
  cases e0; cases e1; cases e2; cases e3; cases e4; cases e5; cases e6; cases e7; cases e8; cases e9
  obtain ⟨n0, rfl⟩ := one_int Tryz.underlying3 h0
  obtain ⟨v, l, e, hr⟩ := h1.rs (s := 2) (R := PutR) Tryz.underlying92 (by kernel_rfl) (by decide) fun cs h => open_put h
  have e : b = v := by simpa using e
  subst e
  refine ⟨⟨n0, l, fun k => match k with | 0 => l0 | 1 => l1 | 2 => l2 | 3 => l3 | 4 => l4 | 5 => l5 | 6 => l6 | 7 => l7 | 8 => l8 | _ => l9⟩, _, fun k => match k with | 0 => aV W.heap.size v0 | 1 => aV W.heap.size v1 | 2 => aV W.heap.size v2 | 3 => aV W.heap.size v3 | 4 => aV W.heap.size v4 | 5 => aV W.heap.size v5 | 6 => aV W.heap.size v6 | 7 => aV W.heap.size v7 | 8 => aV W.heap.size v8 | _ => aV W.heap.size v9, by simp only [aVs, aV], hr, ?_⟩
  intro k hk
  match k, hk with
  | 0, _ => exact r0
  | 1, _ => exact r1
  | 2, _ => exact r2
  | 3, _ => exact r3
  | 4, _ => exact r4
  | 5, _ => exact r5
  | 6, _ => exact r6
  | 7, _ => exact r7
  | 8, _ => exact r8
  | 9, _ => exact r9
theorem open_code (h : Tr enc Tryz.prog W 24 cs) : ∃ t : Code, CodeR (gW W) (aVs W.heap.size cs) t := by
  have hl := h.len (n := 2) Tryz.underlying24 (by kernel_rfl)
  have hf := h.fld Tryz.underlying24
  obtain ⟨a, b, rfl⟩ := list2 hl
  have h0 := hf 0 9 0 1 rfl (by kernel_rfl)
  have h1 := hf 1 22 1 1 rfl (by kernel_rfl)
  obtain ⟨s, e, _⟩ := h0.str Tryz.underlying9
  have e : a = .string s := by simpa using e
  subst e
  obtain ⟨v, l, e, hr⟩ := h1.rs (s := 12) (R := VersionR) Tryz.underlying22 (by kernel_rfl) (by decide) fun cs h => open_version h
  have e : b = v := by simpa using e
  subst e
  exact ⟨⟨s.data.toList, l⟩, _, by simp only [aVs, aV], hr⟩
theorem open_room (h : Tr enc Tryz.prog W 29 cs) : ∃ t : Room, RoomR (gW W) (aVs W.heap.size cs) t := by
  have hl := h.len (n := 6) Tryz.underlying29 (by kernel_rfl)
  have hf := h.fld Tryz.underlying29
  obtain ⟨a, b, c, d, e, f, rfl⟩ := list6 hl
  have h0 := hf 0 3 0 1 rfl (by kernel_rfl)
  have h1 := hf 1 3 1 1 rfl (by kernel_rfl)
  have h2 := hf 2 3 2 1 rfl (by kernel_rfl)
  have h3 := hf 3 3 3 1 rfl (by kernel_rfl)
  have h4 := hf 4 27 4 2 rfl (by kernel_rfl)
  obtain ⟨n0, rfl⟩ := one_int Tryz.underlying3 h0
  obtain ⟨n1, rfl⟩ := one_int Tryz.underlying3 h1
  obtain ⟨n2, rfl⟩ := one_int Tryz.underlying3 h2
  obtain ⟨n3, rfl⟩ := one_int Tryz.underlying3 h3
  have hg := h4.fld Tryz.underlying27
  have g0 := hg 0 3 0 1 rfl (by kernel_rfl)
  have g1 := hg 1 3 1 1 rfl (by kernel_rfl)
  obtain ⟨n4, rfl⟩ := one_int Tryz.underlying3 g0
  obtain ⟨n5, rfl⟩ := one_int Tryz.underlying3 g1
  exact ⟨⟨n0, n1, n2, n3, n4, n5⟩, by simp only [RoomR, Room.v, aVs, aV]⟩
theorem open_rooms (h : Tr enc Tryz.prog W 25 cs) : ∃ v l, cs = [v] ∧ RS RoomR 6 (gW W) (aV W.heap.size v) l := h.rs Tryz.underlying25 (by kernel_rfl) (by decide) fun cs h => open_room h
end
end Go.Proofs.YtjflgemfeofciaaGreatDoor
