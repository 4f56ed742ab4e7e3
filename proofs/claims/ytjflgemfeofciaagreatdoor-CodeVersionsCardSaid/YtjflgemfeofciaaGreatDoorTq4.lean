import Derived.Test.YtjflgemfeofciaaGreatDoorTp4
/- Layer 4: what is proved of functions, as scripts use it. -/
namespace Go.Proofs.YtjflgemfeofciaaGreatDoor
open Go Go.Ev
set_option linter.unusedVariables false
set_option linter.unusedSimpArgs false
set_option maxRecDepth 10000
structure T_Share where
  Group : Int
  Rooms : (List Int)
  Litres : (Int × Int)
def R_Share (g : G) (cs : List V) (x : T_Share) : Prop := ∃ v1, cs = [.i .i64 (x.Group), v1, .i .i64 (x.Litres.1), .i .i64 (x.Litres.2)] ∧ RS IntR 1 g v1 (x.Rooms)
theorem R_Share.one {g : G} {cs : List V} {x : T_Share} (h : R_Share g cs x) : allOne cs = true := by
  obtain ⟨v1, rfl, h1⟩ := h
  exact (allOne_cons rfl (allOne_cons h1.one (allOne_cons rfl (allOne_cons rfl rfl))))
theorem R_Share.mono : ∀ g g' cs x, Le g g' → R_Share g cs x → R_Share g' cs x := fun _ _ _ _ hl ⟨v1, h, h1⟩ => ⟨v1, h, h1.mono IntR.mono hl⟩
structure T_Plan where
  Version : Int
  Shares : (Nat → T_Share)
  Exempt : (List Int)
def R_Plan (g : G) (cs : List V) (x : T_Plan) : Prop := ∃ v2 v6 v10 v14 v18 v21, cs = [.i .i64 (x.Version), .i .i64 ((x.Shares 0).Group), v2, .i .i64 ((x.Shares 0).Litres.1), .i .i64 ((x.Shares 0).Litres.2), .i .i64 ((x.Shares 1).Group), v6, .i .i64 ((x.Shares 1).Litres.1), .i .i64 ((x.Shares 1).Litres.2), .i .i64 ((x.Shares 2).Group), v10, .i .i64 ((x.Shares 2).Litres.1), .i .i64 ((x.Shares 2).Litres.2), .i .i64 ((x.Shares 3).Group), v14, .i .i64 ((x.Shares 3).Litres.1), .i .i64 ((x.Shares 3).Litres.2), .i .i64 ((x.Shares 4).Group), v18, .i .i64 ((x.Shares 4).Litres.1), .i .i64 ((x.Shares 4).Litres.2), v21] ∧ RS IntR 1 g v2 ((x.Shares 0).Rooms) ∧ RS IntR 1 g v6 ((x.Shares 1).Rooms) ∧ RS IntR 1 g v10 ((x.Shares 2).Rooms) ∧ RS IntR 1 g v14 ((x.Shares 3).Rooms) ∧ RS IntR 1 g v18 ((x.Shares 4).Rooms) ∧ RS IntR 1 g v21 (x.Exempt)
theorem R_Plan.one {g : G} {cs : List V} {x : T_Plan} (h : R_Plan g cs x) : allOne cs = true := by
  obtain ⟨v2, v6, v10, v14, v18, v21, rfl, h2, h6, h10, h14, h18, h21⟩ := h
  exact (allOne_cons rfl (allOne_cons rfl (allOne_cons h2.one (allOne_cons rfl (allOne_cons rfl (allOne_cons rfl (allOne_cons h6.one (allOne_cons rfl (allOne_cons rfl (allOne_cons rfl (allOne_cons h10.one (allOne_cons rfl (allOne_cons rfl (allOne_cons rfl (allOne_cons h14.one (allOne_cons rfl (allOne_cons rfl (allOne_cons rfl (allOne_cons h18.one (allOne_cons rfl (allOne_cons rfl (allOne_cons h21.one rfl))))))))))))))))))))))
theorem R_Plan.mono : ∀ g g' cs x, Le g g' → R_Plan g cs x → R_Plan g' cs x := fun _ _ _ _ hl ⟨v2, v6, v10, v14, v18, v21, h, h2, h6, h10, h14, h18, h21⟩ => ⟨v2, v6, v10, v14, v18, v21, h, h2.mono IntR.mono hl, h6.mono IntR.mono hl, h10.mono IntR.mono hl, h14.mono IntR.mono hl, h18.mono IntR.mono hl, h21.mono IntR.mono hl⟩
structure T_End where
  Tonnage : Int
  Litres : (Nat → Int)
def R_End (g : G) (cs : List V) (x : T_End) : Prop := cs = [.i .i64 (x.Tonnage), .i .i64 ((x.Litres 0)), .i .i64 ((x.Litres 1)), .i .i64 ((x.Litres 2)), .i .i64 ((x.Litres 3)), .i .i64 ((x.Litres 4))]
theorem R_End.one {g : G} {cs : List V} {x : T_End} (h : R_End g cs x) : allOne cs = true := by rw [h]; rfl
theorem R_End.mono : ∀ g g' cs x, Le g g' → R_End g cs x → R_End g' cs x := fun _ _ _ _ _ h => h
structure T_Case where
  Pieces : (Nat → Int)
  Litres : (Nat → (Int × Int))
  Tonnages : (Int × Int)
def R_Case (g : G) (cs : List V) (x : T_Case) : Prop := cs = [.i .i64 ((x.Pieces 0)), .i .i64 ((x.Pieces 1)), .i .i64 ((x.Pieces 2)), .i .i64 ((x.Pieces 3)), .i .i64 ((x.Pieces 4)), .i .i64 ((x.Litres 0).1), .i .i64 ((x.Litres 0).2), .i .i64 ((x.Litres 1).1), .i .i64 ((x.Litres 1).2), .i .i64 ((x.Litres 2).1), .i .i64 ((x.Litres 2).2), .i .i64 ((x.Litres 3).1), .i .i64 ((x.Litres 3).2), .i .i64 ((x.Litres 4).1), .i .i64 ((x.Litres 4).2), .i .i64 (x.Tonnages.1), .i .i64 (x.Tonnages.2)]
theorem R_Case.one {g : G} {cs : List V} {x : T_Case} (h : R_Case g cs x) : allOne cs = true := by rw [h]; rfl
theorem R_Case.mono : ∀ g g' cs x, Le g g' → R_Case g cs x → R_Case g' cs x := fun _ _ _ _ _ h => h
structure T_Open where
  Group : Int
  Piece : Int
  From : Int
def R_Open (g : G) (cs : List V) (x : T_Open) : Prop := cs = [.i .i64 (x.Group), .i .i64 (x.Piece), .i .i64 (x.From)]
theorem R_Open.one {g : G} {cs : List V} {x : T_Open} (h : R_Open g cs x) : allOne cs = true := by rw [h]; rfl
theorem R_Open.mono : ∀ g g' cs x, Le g g' → R_Open g cs x → R_Open g' cs x := fun _ _ _ _ _ h => h
structure T_Ask where
  Day : Int
  Formula : Int
  Rooms : (List Room)
def R_Ask (g : G) (cs : List V) (x : T_Ask) : Prop := ∃ v2, cs = [.i .i64 (x.Day), .i .i64 (x.Formula), v2] ∧ RS RoomR 6 g v2 (x.Rooms)
theorem R_Ask.one {g : G} {cs : List V} {x : T_Ask} (h : R_Ask g cs x) : allOne cs = true := by
  obtain ⟨v2, rfl, h2⟩ := h
  exact (allOne_cons rfl (allOne_cons rfl (allOne_cons h2.one rfl)))
theorem R_Ask.mono : ∀ g g' cs x, Le g g' → R_Ask g cs x → R_Ask g' cs x := fun _ _ _ _ hl ⟨v2, h, h2⟩ => ⟨v2, h, h2.mono RoomR.mono hl⟩
end Go.Proofs.YtjflgemfeofciaaGreatDoor
