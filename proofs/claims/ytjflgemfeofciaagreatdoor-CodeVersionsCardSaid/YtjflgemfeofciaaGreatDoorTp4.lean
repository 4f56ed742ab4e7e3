import Derived.Test.YtjflgemfeofciaaGreatDoorRl4
import Derived.Test.YtjflgemfeofciaaGreatDoorMX3
/- Layer 4: the types that scripts know. -/
namespace Go.Proofs.YtjflgemfeofciaaGreatDoor
open Go Go.Ev
--TYPE api.Range {'lean':'(Int × Int)','cells':['{x}.1','{x}.2'],'mk':'({0}, {1})','rel':'RngR','mono':'RngR.mono'}
--TYPE api.Test {'lean':'Test','cells':['{x}.of','{x}.how','{x}.num'],'mk':'(Test.mk {0} {1} {2})','rel':'TestR','mono':'TestR.mono'}
--TYPE api.Piece {'lean':'Piece','cells':['{x}.fr','{x}.base','{x}.rate'],'mk':'(Piece.mk {0} {1} {2})','rel':'PieceR','mono':'PieceR.mono'}
--TYPE api.Put {'lean':'Put','cells':['{x}.group','{x}.tests'],'mk':'(Put.mk {0} {1})','rel':'PutR','mono':'PutR.mono','prf':lambda rs:'⟨_, rfl, %s⟩'%rs[1]}
--TYPE api.Version {'lean':'Version','cells':['{x}.fr','{x}.puts']+['({x}.ln %d)'%k for k in range(10)],'mk':'(Version.mk {0} {1} (arr [{2}, {3}, {4}, {5}, {6}, {7}, {8}, {9}, {10}, {11}] {2}))','rel':'VersionR','mono':'VersionR.mono','prf':lambda rs:'(VersionR.of %s)'%' '.join(rs[i] for i in range(1,12))}
--TYPE api.Code {'lean':'Code','cells':['{x}.name','{x}.vs'],'mk':'(Code.mk {0} {1})','rel':'CodeR','mono':'CodeR.mono','prf':lambda rs:'⟨_, rfl, %s⟩'%rs[1]}
--REL api.Code {'pat':'⟨v#, rfl, hc#⟩','cells':{1:'hc#'},'vts':{1:'v#'},'facts':{'hc#':'F.mono VersionR.mono L'},'whole':'⟨_, rfl, hc#⟩'}
--TYPE api.Room {'lean':'Room','cells':['{x}.id','{x}.kind','{x}.op','{x}.cr','{x}.lo','{x}.hi'],'mk':'(Room.mk {0} {1} {2} {3} {4} {5})','rel':'RoomR','mono':'RoomR.mono'}
theorem TestR.one {g : G} {cs : List V} {x : Test} (h : TestR g cs x) : allOne cs = true := by rw [h]; rfl
theorem PieceR.one {g : G} {cs : List V} {x : Piece} (h : PieceR g cs x) : allOne cs = true := by rw [h]; rfl
theorem RoomR.one {g : G} {cs : List V} {x : Room} (h : RoomR g cs x) : allOne cs = true := by rw [h]; rfl
theorem RngR.one {g : G} {cs : List V} {x : Int × Int} (h : RngR g cs x) : allOne cs = true := by rw [h]; rfl
theorem PutR.one {g : G} {cs : List V} {x : Put} (h : PutR g cs x) : allOne cs = true := by
  obtain ⟨v, rfl, h⟩ := h
  exact allOne_cons rfl (allOne_cons h.one rfl)
theorem VersionR.one {g : G} {cs : List V} {x : Version} (h : VersionR g cs x) : allOne cs = true := by
  obtain ⟨p, lv, rfl, hp, hl⟩ := h
  exact allOne_cons rfl (allOne_cons hp.one (allOne_cons (hl 0 (by decide)).one (allOne_cons (hl 1 (by decide)).one (allOne_cons (hl 2 (by decide)).one (allOne_cons (hl 3 (by decide)).one (allOne_cons (hl 4 (by decide)).one (allOne_cons (hl 5 (by decide)).one (allOne_cons (hl 6 (by decide)).one (allOne_cons (hl 7 (by decide)).one (allOne_cons (hl 8 (by decide)).one (allOne_cons (hl 9 (by decide)).one rfl)))))))))))
/-- ten lists in memory. -/
def lv10 (a b c d e f h i j k : V) : Nat → V := fun n => match n with
  | 0 => a | 1 => b | 2 => c | 3 => d | 4 => e | 5 => f | 6 => h | 7 => i | 8 => j | _ => k
theorem VersionR.of {g : G} {fr : Int} {p a b c d e f h i j k : V} {puts : List Put} {ln : Nat → List Piece} (hp : RS PutR 2 g p puts) (h0 : RS PieceR 3 g a (ln 0)) (h1 : RS PieceR 3 g b (ln 1)) (h2 : RS PieceR 3 g c (ln 2)) (h3 : RS PieceR 3 g d (ln 3)) (h4 : RS PieceR 3 g e (ln 4)) (h5 : RS PieceR 3 g f (ln 5)) (h6 : RS PieceR 3 g h (ln 6)) (h7 : RS PieceR 3 g i (ln 7)) (h8 : RS PieceR 3 g j (ln 8)) (h9 : RS PieceR 3 g k (ln 9)) : VersionR g [.i .i64 fr, p, a, b, c, d, e, f, h, i, j, k] ⟨fr, puts, ln⟩ :=
  ⟨p, lv10 a b c d e f h i j k, rfl, hp, fun n hn => match n, hn with
    | 0, _ => h0 | 1, _ => h1 | 2, _ => h2 | 3, _ => h3 | 4, _ => h4 | 5, _ => h5 | 6, _ => h6 | 7, _ => h7 | 8, _ => h8 | 9, _ => h9
    | n + 10, hn => absurd hn (by omega)⟩
end Go.Proofs.YtjflgemfeofciaaGreatDoor
