import Derived.Test.YtjflgemfeofciaaGreatDoorMY7
/- Layer 4: questions, printed whole. -/
namespace Go.Proofs.YtjflgemfeofciaaGreatDoor
open Go Go.Ev
set_option linter.unusedVariables false
set_option linter.unusedSimpArgs false
set_option maxRecDepth 10000
structure T_question where
  c_ : Code
  version_ : Version
  index_ : Int
  e_ : Int
def R_question (g : G) (cs : List V) (x : T_question) : Prop := ∃ v1 v3 v4 v5 v6 v7 v8 v9 v10 v11 v12 v13, cs = [.s (x.c_.name), v1, .i .i64 (x.version_.fr), v3, v4, v5, v6, v7, v8, v9, v10, v11, v12, v13, .i .i64 (x.index_), .i .i64 (x.e_)] ∧ RS VersionR 12 g v1 (x.c_.vs) ∧ RS PutR 2 g v3 (x.version_.puts) ∧ RS PieceR 3 g v4 ((x.version_.ln 0)) ∧ RS PieceR 3 g v5 ((x.version_.ln 1)) ∧ RS PieceR 3 g v6 ((x.version_.ln 2)) ∧ RS PieceR 3 g v7 ((x.version_.ln 3)) ∧ RS PieceR 3 g v8 ((x.version_.ln 4)) ∧ RS PieceR 3 g v9 ((x.version_.ln 5)) ∧ RS PieceR 3 g v10 ((x.version_.ln 6)) ∧ RS PieceR 3 g v11 ((x.version_.ln 7)) ∧ RS PieceR 3 g v12 ((x.version_.ln 8)) ∧ RS PieceR 3 g v13 ((x.version_.ln 9))
theorem R_question.one {g : G} {cs : List V} {x : T_question} (h : R_question g cs x) : allOne cs = true := by
  obtain ⟨v1, v3, v4, v5, v6, v7, v8, v9, v10, v11, v12, v13, rfl, h1, h3, h4, h5, h6, h7, h8, h9, h10, h11, h12, h13⟩ := h
  exact (allOne_cons rfl (allOne_cons h1.one (allOne_cons rfl (allOne_cons h3.one (allOne_cons h4.one (allOne_cons h5.one (allOne_cons h6.one (allOne_cons h7.one (allOne_cons h8.one (allOne_cons h9.one (allOne_cons h10.one (allOne_cons h11.one (allOne_cons h12.one (allOne_cons h13.one (allOne_cons rfl (allOne_cons rfl rfl))))))))))))))))
theorem R_question.mono : ∀ g g' cs x, Le g g' → R_question g cs x → R_question g' cs x := fun _ _ _ _ hl ⟨v1, v3, v4, v5, v6, v7, v8, v9, v10, v11, v12, v13, h, h1, h3, h4, h5, h6, h7, h8, h9, h10, h11, h12, h13⟩ => ⟨v1, v3, v4, v5, v6, v7, v8, v9, v10, v11, v12, v13, h, h1.mono VersionR.mono hl, h3.mono PutR.mono hl, h4.mono PieceR.mono hl, h5.mono PieceR.mono hl, h6.mono PieceR.mono hl, h7.mono PieceR.mono hl, h8.mono PieceR.mono hl, h9.mono PieceR.mono hl, h10.mono PieceR.mono hl, h11.mono PieceR.mono hl, h12.mono PieceR.mono hl, h13.mono PieceR.mono hl⟩

def F_code_of (p0 : Code) : Option (T_question) := some (T_question.mk p0 (Version.mk 0 [] (arr [[], [], [], [], [], [], [], [], [], []] [])) (-1) (Code.err p0))
def F_code_question_fail (p0 : T_question) (p1 : Bool) (p2 : Int) : Option (T_question) := (cond (decide (p0.e_ = 0)) ((cond p1 (some (T_question.mk p0.c_ p0.version_ p0.index_ p2)) (some p0))) (some p0))
def F_code_question_by (p0 : T_question) (p1 : Int) : Option (T_question) := (cond (!(decide (p1 = 0))) (((F_code_question_fail p0 (!(decide (p1 = 1))) 1).bind fun q2 => some q2)) (((F_code_question_fail p0 false 1).bind fun q3 => some q3)))
def F_code_question_on (p0 : T_question) (p1 : Int) (p2 : Int) : Option (T_question) := ((F_code_question_fail p0 (!(within p1 0 100000)) 6).bind fun q3 => ((F_code_question_by q3 p2).bind fun q4 => ((F_code_question_fail q4 (decide ((forceI p0.c_ p1) < 0)) 45).bind fun q5 => (cond (decide (q5.e_ = 0)) (((atI q5.c_.vs (forceI p0.c_ p1)).bind fun y7 => some (T_question.mk q5.c_ y7 (forceI p0.c_ p1) q5.e_))) (some q5)))))
end Go.Proofs.YtjflgemfeofciaaGreatDoor
