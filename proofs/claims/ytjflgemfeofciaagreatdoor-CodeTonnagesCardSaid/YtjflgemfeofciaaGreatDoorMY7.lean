import Derived.Test.YtjflgemfeofciaaGreatDoorMY4
import Derived.Test.YtjflgemfeofciaaGreatDoorMX3
/- Layer 4: the types that scripts know. -/
namespace Go.Proofs.YtjflgemfeofciaaGreatDoor
open Go Go.Ev
--TYPE api.Range {'lean':'(Int × Int)','cells':['{x}.1','{x}.2'],'mk':'({0}, {1})','rel':'RngR','mono':'RngR.mono'}
--TYPE api.Test {'lean':'Test','cells':['{x}.of','{x}.how','{x}.num'],'mk':'(Test.mk {0} {1} {2})','rel':'TestR','mono':'TestR.mono'}
--TYPE api.Piece {'lean':'Piece','cells':['{x}.fr','{x}.base','{x}.rate'],'mk':'(Piece.mk {0} {1} {2})','rel':'PieceR','mono':'PieceR.mono'}
--TYPE api.Put {'lean':'Put','cells':['{x}.group','{x}.tests'],'mk':'(Put.mk {0} {1})','rel':'PutR','mono':'PutR.mono','prf':lambda rs:'⟨_, rfl, %s⟩'%rs[1]}
--TYPE api.Version {'lean':'Version','cells':['{x}.fr','{x}.puts']+['({x}.ln %d)'%k for k in range(10)],'mk':'(Version.mk {0} {1} (arr [{2}, {3}, {4}, {5}, {6}, {7}, {8}, {9}, {10}, {11}] {2}))','rel':'VersionR','mono':'VersionR.mono','prf':lambda rs:'(VersionR.of %s)'%' '.join(rs[i] for i in range(1,12))}
--TYPE api.Code {'lean':'Code','cells':['{x}.name','{x}.vs'],'mk':'(Code.mk {0} {1})','rel':'CodeR','mono':'CodeR.mono','prf':lambda rs:'⟨_, rfl, %s⟩'%rs[1]}
--REL api.Code {'pat':'⟨v#, rfl, hc#⟩','cells':{1:'hc#'},'vts':{1:'v#'},'facts':{'hc#':'F.mono VersionR.mono L'},'whole':'⟨_, rfl, hc#⟩'}
--TYPE api.Room {'lean':'Room','cells':['{x}.id','{x}.kind','{x}.op','{x}.cr','{x}.lo','{x}.hi'],'mk':'(Room.mk {0} {1} {2} {3} {4} {5})','rel':'RoomR','mono':'RoomR.mono'}
theorem TestR.one {g : G} {cs : List V} {x : Test} (h : TestR g cs x) : allOne cs = true := by rw [h]; rfl
theorem PieceR.one {g : G} {cs : List V} {x : Piece} (h : PieceR g cs x) : allOne cs = true := by rw [h]; rfl
theorem RoomR.one {g : G} {cs : List V} {x : Room} (h : RoomR g cs x) : allOne cs = true := by rw [h]; rfl
theorem RngR.one {g : G} {cs : List V} {x : Int × Int} (h : RngR g cs x) : allOne cs = true := by rw [h]; rfl
theorem PutR.one {g : G} {cs : List V} {x : Put} (h : PutR g cs x) : allOne cs = true := by
  obtain ⟨v, rfl, h⟩ := h
  exact allOne_cons rfl (allOne_cons h.one rfl)
theorem VersionR.one {g : G} {cs : List V} {x : Version} (h : VersionR g cs x) : allOne cs = true := by
  obtain ⟨p, lv, rfl, hp, hl⟩ := h
  exact allOne_cons rfl (allOne_cons hp.one (allOne_cons (hl 0 (by decide)).one (allOne_cons (hl 1 (by decide)).one (allOne_cons (hl 2 (by decide)).one (allOne_cons (hl 3 (by decide)).one (allOne_cons (hl 4 (by decide)).one (allOne_cons (hl 5 (by decide)).one (allOne_cons (hl 6 (by decide)).one (allOne_cons (hl 7 (by decide)).one (allOne_cons (hl 8 (by decide)).one (allOne_cons (hl 9 (by decide)).one rfl)))))))))))
/-- ten lists in memory. -/
def lv10 (a b c d e f h i j k : V) : Nat → V := fun n => match n with
  | 0 => a | 1 => b | 2 => c | 3 => d | 4 => e | 5 => f | 6 => h | 7 => i | 8 => j | _ => k
theorem VersionR.of {g : G} {fr : Int} {p a b c d e f h i j k : V} {puts : List Put} {ln : Nat → List Piece} (hp : RS PutR 2 g p puts) (h0 : RS PieceR 3 g a (ln 0)) (h1 : RS PieceR 3 g b (ln 1)) (h2 : RS PieceR 3 g c (ln 2)) (h3 : RS PieceR 3 g d (ln 3)) (h4 : RS PieceR 3 g e (ln 4)) (h5 : RS PieceR 3 g f (ln 5)) (h6 : RS PieceR 3 g h (ln 6)) (h7 : RS PieceR 3 g i (ln 7)) (h8 : RS PieceR 3 g j (ln 8)) (h9 : RS PieceR 3 g k (ln 9)) : VersionR g [.i .i64 fr, p, a, b, c, d, e, f, h, i, j, k] ⟨fr, puts, ln⟩ :=
  ⟨p, lv10 a b c d e f h i j k, rfl, hp, fun n hn => match n, hn with
    | 0, _ => h0 | 1, _ => h1 | 2, _ => h2 | 3, _ => h3 | 4, _ => h4 | 5, _ => h5 | 6, _ => h6 | 7, _ => h7 | 8, _ => h8 | 9, _ => h9
    | n + 10, hn => absurd hn (by omega)⟩
end Go.Proofs.YtjflgemfeofciaaGreatDoor

/- Layer 4: what is proved of functions, as scripts use it. -/
namespace Go.Proofs.YtjflgemfeofciaaGreatDoor
open Go Go.Ev
set_option linter.unusedVariables false
set_option linter.unusedSimpArgs false
set_option maxRecDepth 10000
structure T_Share where
  Group : Int
  Rooms : (List Int)
  Litres : (Int × Int)
def R_Share (g : G) (cs : List V) (x : T_Share) : Prop := ∃ v1, cs = [.i .i64 (x.Group), v1, .i .i64 (x.Litres.1), .i .i64 (x.Litres.2)] ∧ RS IntR 1 g v1 (x.Rooms)
theorem R_Share.one {g : G} {cs : List V} {x : T_Share} (h : R_Share g cs x) : allOne cs = true := by
  obtain ⟨v1, rfl, h1⟩ := h
  exact (allOne_cons rfl (allOne_cons h1.one (allOne_cons rfl (allOne_cons rfl rfl))))
theorem R_Share.mono : ∀ g g' cs x, Le g g' → R_Share g cs x → R_Share g' cs x := fun _ _ _ _ hl ⟨v1, h, h1⟩ => ⟨v1, h, h1.mono IntR.mono hl⟩
structure T_Plan where
  Version : Int
  Shares : (Nat → T_Share)
  Exempt : (List Int)
def R_Plan (g : G) (cs : List V) (x : T_Plan) : Prop := ∃ v2 v6 v10 v14 v18 v21, cs = [.i .i64 (x.Version), .i .i64 ((x.Shares 0).Group), v2, .i .i64 ((x.Shares 0).Litres.1), .i .i64 ((x.Shares 0).Litres.2), .i .i64 ((x.Shares 1).Group), v6, .i .i64 ((x.Shares 1).Litres.1), .i .i64 ((x.Shares 1).Litres.2), .i .i64 ((x.Shares 2).Group), v10, .i .i64 ((x.Shares 2).Litres.1), .i .i64 ((x.Shares 2).Litres.2), .i .i64 ((x.Shares 3).Group), v14, .i .i64 ((x.Shares 3).Litres.1), .i .i64 ((x.Shares 3).Litres.2), .i .i64 ((x.Shares 4).Group), v18, .i .i64 ((x.Shares 4).Litres.1), .i .i64 ((x.Shares 4).Litres.2), v21] ∧ RS IntR 1 g v2 ((x.Shares 0).Rooms) ∧ RS IntR 1 g v6 ((x.Shares 1).Rooms) ∧ RS IntR 1 g v10 ((x.Shares 2).Rooms) ∧ RS IntR 1 g v14 ((x.Shares 3).Rooms) ∧ RS IntR 1 g v18 ((x.Shares 4).Rooms) ∧ RS IntR 1 g v21 (x.Exempt)
theorem R_Plan.one {g : G} {cs : List V} {x : T_Plan} (h : R_Plan g cs x) : allOne cs = true := by
  obtain ⟨v2, v6, v10, v14, v18, v21, rfl, h2, h6, h10, h14, h18, h21⟩ := h
  exact (allOne_cons rfl (allOne_cons rfl (allOne_cons h2.one (allOne_cons rfl (allOne_cons rfl (allOne_cons rfl (allOne_cons h6.one (allOne_cons rfl (allOne_cons rfl (allOne_cons rfl (allOne_cons h10.one (allOne_cons rfl (allOne_cons rfl (allOne_cons rfl (allOne_cons h14.one (allOne_cons rfl (allOne_cons rfl (allOne_cons rfl (allOne_cons h18.one (allOne_cons rfl (allOne_cons rfl (allOne_cons h21.one rfl))))))))))))))))))))))
theorem R_Plan.mono : ∀ g g' cs x, Le g g' → R_Plan g cs x → R_Plan g' cs x := fun _ _ _ _ hl ⟨v2, v6, v10, v14, v18, v21, h, h2, h6, h10, h14, h18, h21⟩ => ⟨v2, v6, v10, v14, v18, v21, h, h2.mono IntR.mono hl, h6.mono IntR.mono hl, h10.mono IntR.mono hl, h14.mono IntR.mono hl, h18.mono IntR.mono hl, h21.mono IntR.mono hl⟩
structure T_End where
  Tonnage : Int
  Litres : (Nat → Int)
def R_End (g : G) (cs : List V) (x : T_End) : Prop := cs = [.i .i64 (x.Tonnage), .i .i64 ((x.Litres 0)), .i .i64 ((x.Litres 1)), .i .i64 ((x.Litres 2)), .i .i64 ((x.Litres 3)), .i .i64 ((x.Litres 4))]
theorem R_End.one {g : G} {cs : List V} {x : T_End} (h : R_End g cs x) : allOne cs = true := by rw [h]; rfl
theorem R_End.mono : ∀ g g' cs x, Le g g' → R_End g cs x → R_End g' cs x := fun _ _ _ _ _ h => h
structure T_Case where
  Pieces : (Nat → Int)
  Litres : (Nat → (Int × Int))
  Tonnages : (Int × Int)
def R_Case (g : G) (cs : List V) (x : T_Case) : Prop := cs = [.i .i64 ((x.Pieces 0)), .i .i64 ((x.Pieces 1)), .i .i64 ((x.Pieces 2)), .i .i64 ((x.Pieces 3)), .i .i64 ((x.Pieces 4)), .i .i64 ((x.Litres 0).1), .i .i64 ((x.Litres 0).2), .i .i64 ((x.Litres 1).1), .i .i64 ((x.Litres 1).2), .i .i64 ((x.Litres 2).1), .i .i64 ((x.Litres 2).2), .i .i64 ((x.Litres 3).1), .i .i64 ((x.Litres 3).2), .i .i64 ((x.Litres 4).1), .i .i64 ((x.Litres 4).2), .i .i64 (x.Tonnages.1), .i .i64 (x.Tonnages.2)]
theorem R_Case.one {g : G} {cs : List V} {x : T_Case} (h : R_Case g cs x) : allOne cs = true := by rw [h]; rfl
theorem R_Case.mono : ∀ g g' cs x, Le g g' → R_Case g cs x → R_Case g' cs x := fun _ _ _ _ _ h => h
structure T_Open where
  Group : Int
  Piece : Int
  From : Int
def R_Open (g : G) (cs : List V) (x : T_Open) : Prop := cs = [.i .i64 (x.Group), .i .i64 (x.Piece), .i .i64 (x.From)]
theorem R_Open.one {g : G} {cs : List V} {x : T_Open} (h : R_Open g cs x) : allOne cs = true := by rw [h]; rfl
theorem R_Open.mono : ∀ g g' cs x, Le g g' → R_Open g cs x → R_Open g' cs x := fun _ _ _ _ _ h => h
structure T_Ask where
  Day : Int
  Formula : Int
  Rooms : (List Room)
def R_Ask (g : G) (cs : List V) (x : T_Ask) : Prop := ∃ v2, cs = [.i .i64 (x.Day), .i .i64 (x.Formula), v2] ∧ RS RoomR 6 g v2 (x.Rooms)
theorem R_Ask.one {g : G} {cs : List V} {x : T_Ask} (h : R_Ask g cs x) : allOne cs = true := by
  obtain ⟨v2, rfl, h2⟩ := h
  exact (allOne_cons rfl (allOne_cons rfl (allOne_cons h2.one rfl)))
theorem R_Ask.mono : ∀ g g' cs x, Le g g' → R_Ask g cs x → R_Ask g' cs x := fun _ _ _ _ hl ⟨v2, h, h2⟩ => ⟨v2, h, h2.mono RoomR.mono hl⟩
def endD (sel : Int × Int → Int) (c : Code) (day f : Int) (l : List Room) : T_End := if endE c day f l = 0 then ⟨judT sel (verF c day) f (fun i => litI (verF c day) Room.lo i l) (fun i => litI (verF c day) Room.hi i l), fun i => sel (judL (verF c day) f.toNat (fun i => litI (verF c day) Room.lo i l) (fun i => litI (verF c day) Room.hi i l) (i + 1))⟩ else ⟨0, fun _ => 0⟩
theorem endA_D {sel : Int × Int → Int} {c : Code} {day f : Int} {l : List Room} : endA sel c day f l = [.i .i64 (endD sel c day f l).Tonnage, .i .i64 ((endD sel c day f l).Litres 0), .i .i64 ((endD sel c day f l).Litres 1), .i .i64 ((endD sel c day f l).Litres 2), .i .i64 ((endD sel c day f l).Litres 3), .i .i64 ((endD sel c day f l).Litres 4)] := by
  unfold endA endD
  split <;> rfl
def F_code_Ends (c : Code) (day f : Int) (l : List Room) : Option (T_End × T_End × Int) := some (endD Prod.fst c day f l, endD Prod.snd c day f l, endE c day f l)
theorem F_code_Ends_ok (p0 : Code) (p1 : Int) (p2 : Int) (p3 : (List Room)) (v3_0 : V) (cs0 : List V) (g : G) (h0 : CodeR g cs0 p0) (h3_0 : RS RoomR 6 g v3_0 p3) (r : T_End × T_End × Int) (hF : F_code_Ends p0 p1 p2 p3 = some r) : Fv Tryz.prog natS (.f 24 [] []) [.agg cs0, .i .i64 p1, .i .i64 p2, v3_0] g (.tup [.agg [.i .i64 r.1.Tonnage, .i .i64 (r.1.Litres 0), .i .i64 (r.1.Litres 1), .i .i64 (r.1.Litres 2), .i .i64 (r.1.Litres 3), .i .i64 (r.1.Litres 4)], .agg [.i .i64 r.2.1.Tonnage, .i .i64 (r.2.1.Litres 0), .i .i64 (r.2.1.Litres 1), .i .i64 (r.2.1.Litres 2), .i .i64 (r.2.1.Litres 3), .i .i64 (r.2.1.Litres 4)], .i .i64 r.2.2]) := by
  obtain rfl := sI hF
  have h := Ends_ok p0 p1 p2 p3 _ _ g h0 h3_0
  rw [endA_D, endA_D] at h
  exact h
def F_code_Judge (c : Code) (day f : Int) (l : List Room) : Option ((Int × Int) × Int) := some (((endD Prod.fst c day f l).Tonnage, (endD Prod.snd c day f l).Tonnage), endE c day f l)
theorem F_code_Judge_ok (p0 : Code) (p1 : Int) (p2 : Int) (p3 : (List Room)) (v3_0 : V) (cs0 : List V) (g : G) (h0 : CodeR g cs0 p0) (h3_0 : RS RoomR 6 g v3_0 p3) (r : (Int × Int) × Int) (hF : F_code_Judge p0 p1 p2 p3 = some r) : Fv Tryz.prog natS (.f 22 [] []) [.agg cs0, .i .i64 p1, .i .i64 p2, v3_0] g (.tup [.agg [.i .i64 r.1.1, .i .i64 r.1.2], .i .i64 r.2]) := by
  obtain rfl := sI hF
  have h := Judge_ok p0 p1 p2 p3 _ _ g h0 h3_0
  rw [endA_D, endA_D] at h
  exact h
def F_code_CheckEnds (c : Code) (day f : Int) (l : List Room) (e : Nat → T_End) : Option Int := some (chkE c day f l (e 0).Tonnage ((e 0).Litres 0) ((e 0).Litres 1) ((e 0).Litres 2) ((e 0).Litres 3) ((e 0).Litres 4) (e 1).Tonnage ((e 1).Litres 0) ((e 1).Litres 1) ((e 1).Litres 2) ((e 1).Litres 3) ((e 1).Litres 4))
theorem F_code_CheckEnds_ok (p0 : Code) (p1 : Int) (p2 : Int) (p3 : (List Room)) (p4 : (Nat → T_End)) (v3_0 : V) (cs0 : List V) (g : G) (h0 : CodeR g cs0 p0) (h3_0 : RS RoomR 6 g v3_0 p3) (r : Int) (hF : F_code_CheckEnds p0 p1 p2 p3 p4 = some r) : Fv Tryz.prog natS (.f 26 [] []) [.agg cs0, .i .i64 p1, .i .i64 p2, v3_0, .agg [.i .i64 ((p4 0).Tonnage), .i .i64 ((p4 0).Litres 0), .i .i64 ((p4 0).Litres 1), .i .i64 ((p4 0).Litres 2), .i .i64 ((p4 0).Litres 3), .i .i64 ((p4 0).Litres 4), .i .i64 ((p4 1).Tonnage), .i .i64 ((p4 1).Litres 0), .i .i64 ((p4 1).Litres 1), .i .i64 ((p4 1).Litres 2), .i .i64 ((p4 1).Litres 3), .i .i64 ((p4 1).Litres 4)]] g (.i .i64 r) := by
  obtain rfl := sI hF
  exact CheckEnds_ok p0 p1 p2 p3 _ _ _ _ _ _ _ _ _ _ _ _ _ _ g h0 h3_0
def planD (v : Version) (n : Int) (l : List Room) : T_Plan := ⟨n, fun i => ⟨(i + 1 : Nat), idsI v (i + 1) l, (litI v Room.lo (i + 1) l, litI v Room.hi (i + 1) l)⟩, idsI v 0 l⟩
end Go.Proofs.YtjflgemfeofciaaGreatDoor
