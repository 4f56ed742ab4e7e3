import Derived.Test.YtjflgemfeofciaaGreatDoorTp4
/- Layer 4: what is proved of functions, as scripts use it. -/
namespace Go.Proofs.YtjflgemfeofciaaGreatDoor
open Go Go.Ev
set_option linter.unusedVariables false
set_option linter.unusedSimpArgs false
set_option maxRecDepth 10000
structure T_Share where
  Group : Int
  Rooms : (List Int)
  Litres : (Int × Int)
def R_Share (g : G) (cs : List V) (x : T_Share) : Prop := ∃ v1, cs = [.i .i64 (x.Group), v1, .i .i64 (x.Litres.1), .i .i64 (x.Litres.2)] ∧ RS IntR 1 g v1 (x.Rooms)
theorem R_Share.mono : ∀ g g' cs x, Le g g' → R_Share g cs x → R_Share g' cs x := fun _ _ _ _ hl ⟨v1, h, h1⟩ => ⟨v1, h, h1.mono IntR.mono hl⟩
structure T_Plan where
  Version : Int
  Shares : (Nat → T_Share)
  Exempt : (List Int)
def R_Plan (g : G) (cs : List V) (x : T_Plan) : Prop := ∃ v2 v6 v10 v14 v18 v21, cs = [.i .i64 (x.Version), .i .i64 ((x.Shares 0).Group), v2, .i .i64 ((x.Shares 0).Litres.1), .i .i64 ((x.Shares 0).Litres.2), .i .i64 ((x.Shares 1).Group), v6, .i .i64 ((x.Shares 1).Litres.1), .i .i64 ((x.Shares 1).Litres.2), .i .i64 ((x.Shares 2).Group), v10, .i .i64 ((x.Shares 2).Litres.1), .i .i64 ((x.Shares 2).Litres.2), .i .i64 ((x.Shares 3).Group), v14, .i .i64 ((x.Shares 3).Litres.1), .i .i64 ((x.Shares 3).Litres.2), .i .i64 ((x.Shares 4).Group), v18, .i .i64 ((x.Shares 4).Litres.1), .i .i64 ((x.Shares 4).Litres.2), v21] ∧ RS IntR 1 g v2 ((x.Shares 0).Rooms) ∧ RS IntR 1 g v6 ((x.Shares 1).Rooms) ∧ RS IntR 1 g v10 ((x.Shares 2).Rooms) ∧ RS IntR 1 g v14 ((x.Shares 3).Rooms) ∧ RS IntR 1 g v18 ((x.Shares 4).Rooms) ∧ RS IntR 1 g v21 (x.Exempt)
theorem R_Plan.mono : ∀ g g' cs x, Le g g' → R_Plan g cs x → R_Plan g' cs x := fun _ _ _ _ hl ⟨v2, v6, v10, v14, v18, v21, h, h2, h6, h10, h14, h18, h21⟩ => ⟨v2, v6, v10, v14, v18, v21, h, h2.mono IntR.mono hl, h6.mono IntR.mono hl, h10.mono IntR.mono hl, h14.mono IntR.mono hl, h18.mono IntR.mono hl, h21.mono IntR.mono hl⟩
structure T_End where
  Tonnage : Int
  Litres : (Nat → Int)
def R_End (g : G) (cs : List V) (x : T_End) : Prop := cs = [.i .i64 (x.Tonnage), .i .i64 ((x.Litres 0)), .i .i64 ((x.Litres 1)), .i .i64 ((x.Litres 2)), .i .i64 ((x.Litres 3)), .i .i64 ((x.Litres 4))]
theorem R_End.mono : ∀ g g' cs x, Le g g' → R_End g cs x → R_End g' cs x := fun _ _ _ _ _ h => h
structure T_Case where
  Pieces : (Nat → Int)
  Litres : (Nat → (Int × Int))
  Tonnages : (Int × Int)
def R_Case (g : G) (cs : List V) (x : T_Case) : Prop := cs = [.i .i64 ((x.Pieces 0)), .i .i64 ((x.Pieces 1)), .i .i64 ((x.Pieces 2)), .i .i64 ((x.Pieces 3)), .i .i64 ((x.Pieces 4)), .i .i64 ((x.Litres 0).1), .i .i64 ((x.Litres 0).2), .i .i64 ((x.Litres 1).1), .i .i64 ((x.Litres 1).2), .i .i64 ((x.Litres 2).1), .i .i64 ((x.Litres 2).2), .i .i64 ((x.Litres 3).1), .i .i64 ((x.Litres 3).2), .i .i64 ((x.Litres 4).1), .i .i64 ((x.Litres 4).2), .i .i64 (x.Tonnages.1), .i .i64 (x.Tonnages.2)]
theorem R_Case.mono : ∀ g g' cs x, Le g g' → R_Case g cs x → R_Case g' cs x := fun _ _ _ _ _ h => h
structure T_Open where
  Group : Int
  Piece : Int
  From : Int
def R_Open (g : G) (cs : List V) (x : T_Open) : Prop := cs = [.i .i64 (x.Group), .i .i64 (x.Piece), .i .i64 (x.From)]
theorem R_Open.mono : ∀ g g' cs x, Le g g' → R_Open g cs x → R_Open g' cs x := fun _ _ _ _ _ h => h
structure T_Ask where
  Day : Int
  Formula : Int
  Rooms : (List Room)
def R_Ask (g : G) (cs : List V) (x : T_Ask) : Prop := ∃ v2, cs = [.i .i64 (x.Day), .i .i64 (x.Formula), v2] ∧ RS RoomR 6 g v2 (x.Rooms)
theorem R_Ask.mono : ∀ g g' cs x, Le g g' → R_Ask g cs x → R_Ask g' cs x := fun _ _ _ _ hl ⟨v2, h, h2⟩ => ⟨v2, h, h2.mono RoomR.mono hl⟩
theorem eq_27 (a0 b0 : Int) (a1 b1 : Int) : eqW Tryz.prog 60 27 (.agg [.i .i64 a0, .i .i64 a1]) (.agg [.i .i64 b0, .i .i64 b1]) = some ((decide (a0 = b0)) && ((decide (a1 = b1)) && true)) := by kernel_rfl
theorem eq_40 (a0 b0 : Int) (a1 b1 : Int) (a2 b2 : Int) (a3 b3 : Int) (a4 b4 : Int) (a5 b5 : Int) : eqW Tryz.prog 60 40 (.agg [.i .i64 a0, .i .i64 a1, .i .i64 a2, .i .i64 a3, .i .i64 a4, .i .i64 a5]) (.agg [.i .i64 b0, .i .i64 b1, .i .i64 b2, .i .i64 b3, .i .i64 b4, .i .i64 b5]) = some ((decide (a0 = b0)) && (((decide (a1 = b1)) && ((decide (a2 = b2)) && ((decide (a3 = b3)) && ((decide (a4 = b4)) && ((decide (a5 = b5)) && true))))) && true)) := by kernel_rfl
def endD (sel : Int × Int → Int) (c : Code) (day f : Int) (l : List Room) : T_End := if endE c day f l = 0 then ⟨judT sel (verF c day) f (fun i => litI (verF c day) Room.lo i l) (fun i => litI (verF c day) Room.hi i l), fun i => sel (judL (verF c day) f.toNat (fun i => litI (verF c day) Room.lo i l) (fun i => litI (verF c day) Room.hi i l) (i + 1))⟩ else ⟨0, fun _ => 0⟩
theorem endA_D {sel : Int × Int → Int} {c : Code} {day f : Int} {l : List Room} : endA sel c day f l = [.i .i64 (endD sel c day f l).Tonnage, .i .i64 ((endD sel c day f l).Litres 0), .i .i64 ((endD sel c day f l).Litres 1), .i .i64 ((endD sel c day f l).Litres 2), .i .i64 ((endD sel c day f l).Litres 3), .i .i64 ((endD sel c day f l).Litres 4)] := by
  unfold endA endD
  split <;> rfl
def F_code_Ends (c : Code) (day f : Int) (l : List Room) : Option (T_End × T_End × Int) := some (endD Prod.fst c day f l, endD Prod.snd c day f l, endE c day f l)
theorem F_code_Ends_ok (p0 : Code) (p1 : Int) (p2 : Int) (p3 : (List Room)) (v0_1 v3_0 : V) (g : G) (h0_1 : RS VersionR 12 g v0_1 p0.vs) (h3_0 : RS RoomR 6 g v3_0 p3) (r : T_End × T_End × Int) (hF : F_code_Ends p0 p1 p2 p3 = some r) : Fv Tryz.prog natS (.f 24 [] []) [.agg [.s p0.name, v0_1], .i .i64 p1, .i .i64 p2, v3_0] g (.tup [.agg [.i .i64 r.1.Tonnage, .i .i64 (r.1.Litres 0), .i .i64 (r.1.Litres 1), .i .i64 (r.1.Litres 2), .i .i64 (r.1.Litres 3), .i .i64 (r.1.Litres 4)], .agg [.i .i64 r.2.1.Tonnage, .i .i64 (r.2.1.Litres 0), .i .i64 (r.2.1.Litres 1), .i .i64 (r.2.1.Litres 2), .i .i64 (r.2.1.Litres 3), .i .i64 (r.2.1.Litres 4)], .i .i64 r.2.2]) := by
  obtain rfl := sI hF
  have h := Ends_ok p0 p1 p2 p3 _ _ g ⟨_, rfl, h0_1⟩ h3_0
  rw [endA_D, endA_D] at h
  exact h
def F_code_Judge (c : Code) (day f : Int) (l : List Room) : Option ((Int × Int) × Int) := some (((endD Prod.fst c day f l).Tonnage, (endD Prod.snd c day f l).Tonnage), endE c day f l)
theorem F_code_Judge_ok (p0 : Code) (p1 : Int) (p2 : Int) (p3 : (List Room)) (v0_1 v3_0 : V) (g : G) (h0_1 : RS VersionR 12 g v0_1 p0.vs) (h3_0 : RS RoomR 6 g v3_0 p3) (r : (Int × Int) × Int) (hF : F_code_Judge p0 p1 p2 p3 = some r) : Fv Tryz.prog natS (.f 22 [] []) [.agg [.s p0.name, v0_1], .i .i64 p1, .i .i64 p2, v3_0] g (.tup [.agg [.i .i64 r.1.1, .i .i64 r.1.2], .i .i64 r.2]) := by
  obtain rfl := sI hF
  have h := Judge_ok p0 p1 p2 p3 _ _ g ⟨_, rfl, h0_1⟩ h3_0
  rw [endA_D, endA_D] at h
  exact h
def F_code_CheckEnds (c : Code) (day f : Int) (l : List Room) (e : Nat → T_End) : Option Int := some (chkE c day f l (e 0).Tonnage ((e 0).Litres 0) ((e 0).Litres 1) ((e 0).Litres 2) ((e 0).Litres 3) ((e 0).Litres 4) (e 1).Tonnage ((e 1).Litres 0) ((e 1).Litres 1) ((e 1).Litres 2) ((e 1).Litres 3) ((e 1).Litres 4))
theorem F_code_CheckEnds_ok (p0 : Code) (p1 : Int) (p2 : Int) (p3 : (List Room)) (p4 : (Nat → T_End)) (v0_1 v3_0 : V) (g : G) (h0_1 : RS VersionR 12 g v0_1 p0.vs) (h3_0 : RS RoomR 6 g v3_0 p3) (r : Int) (hF : F_code_CheckEnds p0 p1 p2 p3 p4 = some r) : Fv Tryz.prog natS (.f 26 [] []) [.agg [.s p0.name, v0_1], .i .i64 p1, .i .i64 p2, v3_0, .agg [.i .i64 ((p4 0).Tonnage), .i .i64 ((p4 0).Litres 0), .i .i64 ((p4 0).Litres 1), .i .i64 ((p4 0).Litres 2), .i .i64 ((p4 0).Litres 3), .i .i64 ((p4 0).Litres 4), .i .i64 ((p4 1).Tonnage), .i .i64 ((p4 1).Litres 0), .i .i64 ((p4 1).Litres 1), .i .i64 ((p4 1).Litres 2), .i .i64 ((p4 1).Litres 3), .i .i64 ((p4 1).Litres 4)]] g (.i .i64 r) := by
  obtain rfl := sI hF
  exact CheckEnds_ok p0 p1 p2 p3 _ _ _ _ _ _ _ _ _ _ _ _ _ _ g ⟨_, rfl, h0_1⟩ h3_0
def planD (v : Version) (n : Int) (l : List Room) : T_Plan := ⟨n, fun i => ⟨(i + 1 : Nat), idsI v (i + 1) l, (litI v Room.lo (i + 1) l, litI v Room.hi (i + 1) l)⟩, idsI v 0 l⟩
def F_r04_plan (v : Version) (n : Int) (l : List Room) : Option T_Plan := ck (decide (l.length ≤ 20) && v.puts.all Put.ok) (some (planD v n l))
theorem F_r04_plan_ok (p0 : Version) (p1 : Int) (p2 : (List Room)) (v0_1 v0_2 v0_3 v0_4 v0_5 v0_6 v0_7 v0_8 v0_9 v0_10 v0_11 v2_0 : V) (g : G) (h0_1 : RS PutR 2 g v0_1 p0.puts) (h0_2 : RS PieceR 3 g v0_2 (p0.ln 0)) (h0_3 : RS PieceR 3 g v0_3 (p0.ln 1)) (h0_4 : RS PieceR 3 g v0_4 (p0.ln 2)) (h0_5 : RS PieceR 3 g v0_5 (p0.ln 3)) (h0_6 : RS PieceR 3 g v0_6 (p0.ln 4)) (h0_7 : RS PieceR 3 g v0_7 (p0.ln 5)) (h0_8 : RS PieceR 3 g v0_8 (p0.ln 6)) (h0_9 : RS PieceR 3 g v0_9 (p0.ln 7)) (h0_10 : RS PieceR 3 g v0_10 (p0.ln 8)) (h0_11 : RS PieceR 3 g v0_11 (p0.ln 9)) (h2_0 : RS RoomR 6 g v2_0 p2) (r : T_Plan) (hF : F_r04_plan p0 p1 p2 = some r) : Fw Tryz.prog natS (.f 82 [] []) [.agg [.i .i64 p0.fr, v0_1, v0_2, v0_3, v0_4, v0_5, v0_6, v0_7, v0_8, v0_9, v0_10, v0_11], .i .i64 p1, v2_0] g [] fun g' ml' q => ml' = [] ∧ ∃ w0_2 w0_6 w0_10 w0_14 w0_18 w0_21, q = (.agg [.i .i64 r.Version, .i .i64 ((r.Shares 0).Group), w0_2, .i .i64 ((r.Shares 0).Litres.1), .i .i64 ((r.Shares 0).Litres.2), .i .i64 ((r.Shares 1).Group), w0_6, .i .i64 ((r.Shares 1).Litres.1), .i .i64 ((r.Shares 1).Litres.2), .i .i64 ((r.Shares 2).Group), w0_10, .i .i64 ((r.Shares 2).Litres.1), .i .i64 ((r.Shares 2).Litres.2), .i .i64 ((r.Shares 3).Group), w0_14, .i .i64 ((r.Shares 3).Litres.1), .i .i64 ((r.Shares 3).Litres.2), .i .i64 ((r.Shares 4).Group), w0_18, .i .i64 ((r.Shares 4).Litres.1), .i .i64 ((r.Shares 4).Litres.2), w0_21]) ∧ RS IntR 1 g' w0_2 ((r.Shares 0).Rooms) ∧ RS IntR 1 g' w0_6 ((r.Shares 1).Rooms) ∧ RS IntR 1 g' w0_10 ((r.Shares 2).Rooms) ∧ RS IntR 1 g' w0_14 ((r.Shares 3).Rooms) ∧ RS IntR 1 g' w0_18 ((r.Shares 4).Rooms) ∧ RS IntR 1 g' w0_21 r.Exempt := by
  obtain ⟨h1, hF⟩ := ckS hF
  obtain rfl := sI hF
  rw [Bool.and_eq_true, decide_eq_true_eq] at h1
  refine (rplan_ok p0 p1 p2 _ _ g (VersionR.of h0_1 h0_2 h0_3 h0_4 h0_5 h0_6 h0_7 h0_8 h0_9 h0_10 h0_11) h2_0 h1.1 h1.2).mono ?_
  rintro g' ml' r - ⟨cs, rfl, rfl, rv, rfl, hrv⟩
  exact ⟨rfl, rv 1, rv 2, rv 3, rv 4, rv 5, rv 0, rfl, hrv 1 (by decide), hrv 2 (by decide), hrv 3 (by decide), hrv 4 (by decide), hrv 5 (by decide), hrv 0 (by decide)⟩
end Go.Proofs.YtjflgemfeofciaaGreatDoor
