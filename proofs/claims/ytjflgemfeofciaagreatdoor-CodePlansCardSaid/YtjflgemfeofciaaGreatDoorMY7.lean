import Derived.Test.YtjflgemfeofciaaGreatDoorMY4
import Derived.Test.YtjflgemfeofciaaGreatDoorMX3
namespace Go.Proofs.YtjflgemfeofciaaGreatDoor
open Go Go.Ev
theorem TestR.one {g:G} {cs:List V} {x:Test} (h:TestR g cs x):Qb cs=true:=by rw [h];rfl
theorem PieceR.one {g:G} {cs:List V} {x:Piece} (h:PieceR g cs x):Qb cs=true:=by rw [h];rfl
theorem RoomR.one {g:G} {cs:List V} {x:Room} (h:RoomR g cs x):Qb cs=true:=by rw [h];rfl
theorem RngR.one {g:G} {cs:List V} {x:Int × Int} (h:RngR g cs x):Qb cs=true:=by rw [h];rfl
theorem PutR.one {g:G} {cs:List V} {x:Put} (h:PutR g cs x):Qb cs=true:=by
 obtain ⟨v,rfl,h⟩:=h
 exact Qa rfl (Qa h.one rfl)
theorem VersionR.one {g:G} {cs:List V} {x:Version} (h:VersionR g cs x):Qb cs=true:=by
 obtain ⟨p,lv,rfl,hp,hl⟩:=h
 exact Qa rfl (Qa hp.one (Qa (hl 0 (by decide)).one (Qa (hl 1 (by decide)).one (Qa (hl 2 (by decide)).one (Qa (hl 3 (by decide)).one (Qa (hl 4 (by decide)).one (Qa (hl 5 (by decide)).one (Qa (hl 6 (by decide)).one (Qa (hl 7 (by decide)).one (Qa (hl 8 (by decide)).one (Qa (hl 9 (by decide)).one rfl)))))))))))
def lv10 (a b c d e f h i j k:V):Nat→V:=fun n=>match n with
 | 0=>a | 1=>b | 2=>c | 3=>d | 4=>e | 5=>f | 6=>h | 7=>i | 8=>j | _=>k
theorem VersionR.of {g:G} {fr:Int} {p a b c d e f h i j k:V} {puts:List Put} {ln:Nat→List Piece} (hp:RS PutR 2 g p puts) (h0:RS PieceR 3 g a (ln 0)) (h1:RS PieceR 3 g b (ln 1)) (h2:RS PieceR 3 g c (ln 2)) (h3:RS PieceR 3 g d (ln 3)) (h4:RS PieceR 3 g e (ln 4)) (h5:RS PieceR 3 g f (ln 5)) (h6:RS PieceR 3 g h (ln 6)) (h7:RS PieceR 3 g i (ln 7)) (h8:RS PieceR 3 g j (ln 8)) (h9:RS PieceR 3 g k (ln 9)):VersionR g [.i .i64 fr,p,a,b,c,d,e,f,h,i,j,k] ⟨fr,puts,ln⟩:=
 ⟨p,lv10 a b c d e f h i j k,rfl,hp,fun n hn=>match n,hn with
  | 0,_=>h0 | 1,_=>h1 | 2,_=>h2 | 3,_=>h3 | 4,_=>h4 | 5,_=>h5 | 6,_=>h6 | 7,_=>h7 | 8,_=>h8 | 9,_=>h9
  | n+10,hn=>absurd hn (by omega)⟩
end Go.Proofs.YtjflgemfeofciaaGreatDoor
namespace Go.Proofs.YtjflgemfeofciaaGreatDoor
open Go Go.Ev
set_option linter.unusedVariables false
set_option linter.unusedSimpArgs false
set_option maxRecDepth 10000
structure T_Share where
 Group:Int
 Rooms:(List Int)
 Litres:(Int × Int)
def R_Share (g:G) (cs:List V) (x:T_Share):Prop:=∃ v1,cs=[.i .i64 (x.Group),v1,.i .i64 (x.Litres.1),.i .i64 (x.Litres.2)]∧RS IntR 1 g v1 (x.Rooms)
theorem R_Share.one {g:G} {cs:List V} {x:T_Share} (h:R_Share g cs x):Qb cs=true:=by
 obtain ⟨v1,rfl,h1⟩:=h
 exact (Qa rfl (Qa h1.one (Qa rfl (Qa rfl rfl))))
theorem R_Share.mono:∀ g g' cs x,Le g g'→R_Share g cs x→R_Share g' cs x:=fun _ _ _ _ hl ⟨v1,h,h1⟩=>⟨v1,h,h1.mono IntR.mono hl⟩
structure T_Plan where
 Version:Int
 Shares:(Nat→T_Share)
 Exempt:(List Int)
def R_Plan (g:G) (cs:List V) (x:T_Plan):Prop:=∃ v2 v6 v10 v14 v18 v21,cs=[.i .i64 (x.Version),.i .i64 ((x.Shares 0).Group),v2,.i .i64 ((x.Shares 0).Litres.1),.i .i64 ((x.Shares 0).Litres.2),.i .i64 ((x.Shares 1).Group),v6,.i .i64 ((x.Shares 1).Litres.1),.i .i64 ((x.Shares 1).Litres.2),.i .i64 ((x.Shares 2).Group),v10,.i .i64 ((x.Shares 2).Litres.1),.i .i64 ((x.Shares 2).Litres.2),.i .i64 ((x.Shares 3).Group),v14,.i .i64 ((x.Shares 3).Litres.1),.i .i64 ((x.Shares 3).Litres.2),.i .i64 ((x.Shares 4).Group),v18,.i .i64 ((x.Shares 4).Litres.1),.i .i64 ((x.Shares 4).Litres.2),v21]∧RS IntR 1 g v2 ((x.Shares 0).Rooms)∧RS IntR 1 g v6 ((x.Shares 1).Rooms)∧RS IntR 1 g v10 ((x.Shares 2).Rooms)∧RS IntR 1 g v14 ((x.Shares 3).Rooms)∧RS IntR 1 g v18 ((x.Shares 4).Rooms)∧RS IntR 1 g v21 (x.Exempt)
theorem R_Plan.one {g:G} {cs:List V} {x:T_Plan} (h:R_Plan g cs x):Qb cs=true:=by
 obtain ⟨v2,v6,v10,v14,v18,v21,rfl,h2,h6,h10,h14,h18,h21⟩:=h
 exact (Qa rfl (Qa rfl (Qa h2.one (Qa rfl (Qa rfl (Qa rfl (Qa h6.one (Qa rfl (Qa rfl (Qa rfl (Qa h10.one (Qa rfl (Qa rfl (Qa rfl (Qa h14.one (Qa rfl (Qa rfl (Qa rfl (Qa h18.one (Qa rfl (Qa rfl (Qa h21.one rfl))))))))))))))))))))))
theorem R_Plan.mono:∀ g g' cs x,Le g g'→R_Plan g cs x→R_Plan g' cs x:=fun _ _ _ _ hl ⟨v2,v6,v10,v14,v18,v21,h,h2,h6,h10,h14,h18,h21⟩=>⟨v2,v6,v10,v14,v18,v21,h,h2.mono IntR.mono hl,h6.mono IntR.mono hl,h10.mono IntR.mono hl,h14.mono IntR.mono hl,h18.mono IntR.mono hl,h21.mono IntR.mono hl⟩
structure T_End where
 Tonnage:Int
 Litres:(Nat→Int)
def R_End (g:G) (cs:List V) (x:T_End):Prop:=cs=[.i .i64 (x.Tonnage),.i .i64 ((x.Litres 0)),.i .i64 ((x.Litres 1)),.i .i64 ((x.Litres 2)),.i .i64 ((x.Litres 3)),.i .i64 ((x.Litres 4))]
theorem R_End.one {g:G} {cs:List V} {x:T_End} (h:R_End g cs x):Qb cs=true:=by rw [h];rfl
theorem R_End.mono:∀ g g' cs x,Le g g'→R_End g cs x→R_End g' cs x:=fun _ _ _ _ _ h=>h
structure T_Case where
 Pieces:(Nat→Int)
 Litres:(Nat→(Int × Int))
 Tonnages:(Int × Int)
def R_Case (g:G) (cs:List V) (x:T_Case):Prop:=cs=[.i .i64 ((x.Pieces 0)),.i .i64 ((x.Pieces 1)),.i .i64 ((x.Pieces 2)),.i .i64 ((x.Pieces 3)),.i .i64 ((x.Pieces 4)),.i .i64 ((x.Litres 0).1),.i .i64 ((x.Litres 0).2),.i .i64 ((x.Litres 1).1),.i .i64 ((x.Litres 1).2),.i .i64 ((x.Litres 2).1),.i .i64 ((x.Litres 2).2),.i .i64 ((x.Litres 3).1),.i .i64 ((x.Litres 3).2),.i .i64 ((x.Litres 4).1),.i .i64 ((x.Litres 4).2),.i .i64 (x.Tonnages.1),.i .i64 (x.Tonnages.2)]
theorem R_Case.one {g:G} {cs:List V} {x:T_Case} (h:R_Case g cs x):Qb cs=true:=by rw [h];rfl
theorem R_Case.mono:∀ g g' cs x,Le g g'→R_Case g cs x→R_Case g' cs x:=fun _ _ _ _ _ h=>h
structure T_Open where
 Group:Int
 Piece:Int
 From:Int
def R_Open (g:G) (cs:List V) (x:T_Open):Prop:=cs=[.i .i64 (x.Group),.i .i64 (x.Piece),.i .i64 (x.From)]
theorem R_Open.one {g:G} {cs:List V} {x:T_Open} (h:R_Open g cs x):Qb cs=true:=by rw [h];rfl
theorem R_Open.mono:∀ g g' cs x,Le g g'→R_Open g cs x→R_Open g' cs x:=fun _ _ _ _ _ h=>h
structure T_Ask where
 Day:Int
 Formula:Int
 Rooms:(List Room)
def R_Ask (g:G) (cs:List V) (x:T_Ask):Prop:=∃ v2,cs=[.i .i64 (x.Day),.i .i64 (x.Formula),v2]∧RS RoomR 6 g v2 (x.Rooms)
theorem R_Ask.one {g:G} {cs:List V} {x:T_Ask} (h:R_Ask g cs x):Qb cs=true:=by
 obtain ⟨v2,rfl,h2⟩:=h
 exact (Qa rfl (Qa rfl (Qa h2.one rfl)))
theorem R_Ask.mono:∀ g g' cs x,Le g g'→R_Ask g cs x→R_Ask g' cs x:=fun _ _ _ _ hl ⟨v2,h,h2⟩=>⟨v2,h,h2.mono RoomR.mono hl⟩
theorem eq_27 (a0 b0:Int) (a1 b1:Int):eqW Tryz.prog 60 27 (.agg [.i .i64 a0,.i .i64 a1]) (.agg [.i .i64 b0,.i .i64 b1])=some ((decide (a0=b0)) && ((decide (a1=b1)) && true)):=by kernel_rfl
def planD (v:Version) (n:Int) (l:List Room):T_Plan:=⟨n,fun i=>⟨(i+1:Nat),idsI v (i+1) l,(litI v Room.lo (i+1) l,litI v Room.hi (i+1) l)⟩,idsI v 0 l⟩
def F_r04_plan (v:Version) (n:Int) (l:List Room):Option T_Plan:=ck (decide (l.length≤20) && v.puts.all Put.ok) (some (planD v n l))
theorem F_r04_plan_ok (p0:Version) (p1:Int) (p2:(List Room)) (v2_0:V) (cs0:List V) (g:G) (h0:VersionR g cs0 p0) (h2_0:RS RoomR 6 g v2_0 p2) (r:T_Plan) (hF:F_r04_plan p0 p1 p2=some r):Fw Tryz.prog natS (.f 82 [] []) [.agg cs0,.i .i64 p1,v2_0] g [] fun g' ml' q=>ml'=[]∧∃ (ds0:List V),q=(.agg ds0)∧R_Plan g' ds0 r:=by
 obtain ⟨h1,hF⟩:=ckS hF
 obtain rfl:=sI hF
 rw [Bool.and_eq_true,decide_eq_true_eq] at h1
 refine (rplan_ok p0 p1 p2 _ _ g h0 h2_0 h1.1 h1.2).mono ?_
 rintro g' ml' r - ⟨cs,rfl,rfl,rv,rfl,hrv⟩
 exact ⟨rfl,_,rfl,rv 1,rv 2,rv 3,rv 4,rv 5,rv 0,rfl,hrv 1 (by decide),hrv 2 (by decide),hrv 3 (by decide),hrv 4 (by decide),hrv 5 (by decide),hrv 0 (by decide)⟩
end Go.Proofs.YtjflgemfeofciaaGreatDoor
