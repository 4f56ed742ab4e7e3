/-
  CodePlans: for every input the law returns true, and each argument reads behind the call as it read before. The card: the variables of the library that the row lists are tied to the program's text.
-/
import Derived.Test.YtjflgemfeofciaaGreatDoorPp4
import Derived.Test.YtjflgemfeofciaaGreatDoorMX3
import Derived.Test.YtjflgemfeofciaaGreatDoorLawG
import Derived.Test.YtjflgemfeofciaaGreatDoorJfP
namespace Go.Proofs.YtjflgemfeofciaaGreatDoor
open Go.ChangeShapes Go.WideShapes Go.ChangeAt Go.RowKit Go.Ev
set_option linter.unusedVariables false
set_option linter.unusedSimpArgs false
set_option maxRecDepth 10000
theorem op_9 {H:Type} {enc:TypeId × Value→H} {W:World} {cs:List Value} (h:Tr enc Tryz.prog W 9 cs):∃ (x:(List UInt8)),aVs W.heap.size cs=[.s x]:=by
 obtain ⟨s,rfl,_⟩:=h.str Tryz.underlying9
 exact ⟨s.data.toList,by simp only [aVs,aV]⟩
theorem op_3 {H:Type} {enc:TypeId × Value→H} {W:World} {cs:List Value} (h:Tr enc Tryz.prog W 3 cs):∃ (x:Int),aVs W.heap.size cs=[.i .i64 x]:=by
 obtain ⟨n,rfl,_⟩:=h.int Tryz.underlying3
 exact ⟨n,by simp only [aVs,aV]⟩
theorem op_172 {H:Type} {enc:TypeId × Value→H} {W:World} {cs:List Value} (h:Tr enc Tryz.prog W 172 cs):∃ (x:Test),aVs W.heap.size cs=[.i .i64 x.of,.i .i64 x.how,.i .i64 x.num]:=by
 have hl:=h.len (n:=3) Tryz.underlying172 (by kernel_rfl)
 have hf:=h.fld Tryz.underlying172
 obtain ⟨x0,e0⟩:=op_3 (hf 0 3 0 1 rfl (by kernel_rfl))
 obtain ⟨x1,e1⟩:=op_3 (hf 1 3 1 1 rfl (by kernel_rfl))
 obtain ⟨x2,e2⟩:=op_3 (hf 2 3 2 1 rfl (by kernel_rfl))
 exact ⟨(Test.mk x0 x1 x2),Qam (o:=0) (n:=1) e0 (Qam (o:=1) (n:=1) e1 (Qam (o:=2) (n:=1) e2 (Qde (by omega))))⟩
theorem op_168 {H:Type} {enc:TypeId × Value→H} {W:World} {cs:List Value} (h:Tr enc Tryz.prog W 168 cs):∃ (x:(List Test)) (v0:V),aVs W.heap.size cs=[v0]∧RS TestR 3 (gW W) v0 x:=by
 obtain ⟨v,l,rfl,hr⟩:=h.rs (s:=3) (R:=TestR) Tryz.underlying168 (by kernel_rfl) (by decide) fun cs h=>by
  obtain ⟨x,e⟩:=op_172 h
  rw [e]
  exact ⟨x,rfl⟩
 exact ⟨l,_,by simp only [aVs],hr⟩
theorem op_170 {H:Type} {enc:TypeId × Value→H} {W:World} {cs:List Value} (h:Tr enc Tryz.prog W 170 cs):∃ (x:Put) (v1:V),aVs W.heap.size cs=[.i .i64 x.group,v1]∧RS TestR 3 (gW W) v1 x.tests:=by
 have hl:=h.len (n:=2) Tryz.underlying170 (by kernel_rfl)
 have hf:=h.fld Tryz.underlying170
 obtain ⟨x0,e0⟩:=op_3 (hf 0 3 0 1 rfl (by kernel_rfl))
 obtain ⟨x1,v1_0,e1,h1_0⟩:=op_168 (hf 1 168 1 1 rfl (by kernel_rfl))
 exact ⟨(Put.mk x0 x1),v1_0,Qam (o:=0) (n:=1) e0 (Qam (o:=1) (n:=1) e1 (Qde (by omega))),h1_0⟩
theorem op_92 {H:Type} {enc:TypeId × Value→H} {W:World} {cs:List Value} (h:Tr enc Tryz.prog W 92 cs):∃ (x:(List Put)) (v0:V),aVs W.heap.size cs=[v0]∧RS PutR 2 (gW W) v0 x:=by
 obtain ⟨v,l,rfl,hr⟩:=h.rs (s:=2) (R:=PutR) Tryz.underlying92 (by kernel_rfl) (by decide) fun cs h=>by
  obtain ⟨x,v1,e,h1⟩:=op_170 h
  rw [e]
  exact ⟨x,⟨_,rfl,h1⟩⟩
 exact ⟨l,_,by simp only [aVs],hr⟩
theorem op_157 {H:Type} {enc:TypeId × Value→H} {W:World} {cs:List Value} (h:Tr enc Tryz.prog W 157 cs):∃ (x:Piece),aVs W.heap.size cs=[.i .i64 x.fr,.i .i64 x.base,.i .i64 x.rate]:=by
 have hl:=h.len (n:=3) Tryz.underlying157 (by kernel_rfl)
 have hf:=h.fld Tryz.underlying157
 obtain ⟨x0,e0⟩:=op_3 (hf 0 3 0 1 rfl (by kernel_rfl))
 obtain ⟨x1,e1⟩:=op_3 (hf 1 3 1 1 rfl (by kernel_rfl))
 obtain ⟨x2,e2⟩:=op_3 (hf 2 3 2 1 rfl (by kernel_rfl))
 exact ⟨(Piece.mk x0 x1 x2),Qam (o:=0) (n:=1) e0 (Qam (o:=1) (n:=1) e1 (Qam (o:=2) (n:=1) e2 (Qde (by omega))))⟩
theorem op_93 {H:Type} {enc:TypeId × Value→H} {W:World} {cs:List Value} (h:Tr enc Tryz.prog W 93 cs):∃ (x:(List Piece)) (v0:V),aVs W.heap.size cs=[v0]∧RS PieceR 3 (gW W) v0 x:=by
 obtain ⟨v,l,rfl,hr⟩:=h.rs (s:=3) (R:=PieceR) Tryz.underlying93 (by kernel_rfl) (by decide) fun cs h=>by
  obtain ⟨x,e⟩:=op_157 h
  rw [e]
  exact ⟨x,rfl⟩
 exact ⟨l,_,by simp only [aVs],hr⟩
theorem op_94 {H:Type} {enc:TypeId × Value→H} {W:World} {cs:List Value} (h:Tr enc Tryz.prog W 94 cs):∃ (x:(Nat→(List Piece))) (v0 v1 v2 v3 v4:V),aVs W.heap.size cs=[v0,v1,v2,v3,v4]∧RS PieceR 3 (gW W) v0 (x 0)∧RS PieceR 3 (gW W) v1 (x 1)∧RS PieceR 3 (gW W) v2 (x 2)∧RS PieceR 3 (gW W) v3 (x 3)∧RS PieceR 3 (gW W) v4 (x 4):=by
 have hl:cs.length=5:=(h.array Tryz.underlying94).1.trans (by kernel_rfl)
 have hf:=h.elt Tryz.underlying94 (n:=1) (by kernel_rfl)
 obtain ⟨x0,v0_0,e0,h0_0⟩:=op_93 (hf 0 (by decide))
 obtain ⟨x1,v1_0,e1,h1_0⟩:=op_93 (hf 1 (by decide))
 obtain ⟨x2,v2_0,e2,h2_0⟩:=op_93 (hf 2 (by decide))
 obtain ⟨x3,v3_0,e3,h3_0⟩:=op_93 (hf 3 (by decide))
 obtain ⟨x4,v4_0,e4,h4_0⟩:=op_93 (hf 4 (by decide))
 exact ⟨(arr [x0,x1,x2,x3,x4] x0),v0_0,v1_0,v2_0,v3_0,v4_0,Qam (o:=0) (n:=1) e0 (Qam (o:=1) (n:=1) e1 (Qam (o:=2) (n:=1) e2 (Qam (o:=3) (n:=1) e3 (Qam (o:=4) (n:=1) e4 (Qde (by omega)))))),h0_0,h1_0,h2_0,h3_0,h4_0⟩
theorem op_95 {H:Type} {enc:TypeId × Value→H} {W:World} {cs:List Value} (h:Tr enc Tryz.prog W 95 cs):∃ (x:(Nat→(Nat→(List Piece)))) (v0 v1 v2 v3 v4 v5 v6 v7 v8 v9:V),aVs W.heap.size cs=[v0,v1,v2,v3,v4,v5,v6,v7,v8,v9]∧RS PieceR 3 (gW W) v0 ((x 0) 0)∧RS PieceR 3 (gW W) v1 ((x 0) 1)∧RS PieceR 3 (gW W) v2 ((x 0) 2)∧RS PieceR 3 (gW W) v3 ((x 0) 3)∧RS PieceR 3 (gW W) v4 ((x 0) 4)∧RS PieceR 3 (gW W) v5 ((x 1) 0)∧RS PieceR 3 (gW W) v6 ((x 1) 1)∧RS PieceR 3 (gW W) v7 ((x 1) 2)∧RS PieceR 3 (gW W) v8 ((x 1) 3)∧RS PieceR 3 (gW W) v9 ((x 1) 4):=by
 have hl:cs.length=10:=(h.array Tryz.underlying95).1.trans (by kernel_rfl)
 have hf:=h.elt Tryz.underlying95 (n:=5) (by kernel_rfl)
 obtain ⟨x0,v0_0,v0_1,v0_2,v0_3,v0_4,e0,h0_0,h0_1,h0_2,h0_3,h0_4⟩:=op_94 (hf 0 (by decide))
 obtain ⟨x1,v1_0,v1_1,v1_2,v1_3,v1_4,e1,h1_0,h1_1,h1_2,h1_3,h1_4⟩:=op_94 (hf 1 (by decide))
 exact ⟨(arr [x0,x1] x0),v0_0,v0_1,v0_2,v0_3,v0_4,v1_0,v1_1,v1_2,v1_3,v1_4,Qam (o:=0) (n:=5) e0 (Qam (o:=5) (n:=5) e1 (Qde (by omega))),h0_0,h0_1,h0_2,h0_3,h0_4,h1_0,h1_1,h1_2,h1_3,h1_4⟩
theorem op_97 {H:Type} {enc:TypeId × Value→H} {W:World} {cs:List Value} (h:Tr enc Tryz.prog W 97 cs):∃ (x:Version) (v1 v2 v3 v4 v5 v6 v7 v8 v9 v10 v11:V),aVs W.heap.size cs=[.i .i64 x.fr,v1,v2,v3,v4,v5,v6,v7,v8,v9,v10,v11]∧RS PutR 2 (gW W) v1 x.puts∧RS PieceR 3 (gW W) v2 (x.ln 0)∧RS PieceR 3 (gW W) v3 (x.ln 1)∧RS PieceR 3 (gW W) v4 (x.ln 2)∧RS PieceR 3 (gW W) v5 (x.ln 3)∧RS PieceR 3 (gW W) v6 (x.ln 4)∧RS PieceR 3 (gW W) v7 (x.ln 5)∧RS PieceR 3 (gW W) v8 (x.ln 6)∧RS PieceR 3 (gW W) v9 (x.ln 7)∧RS PieceR 3 (gW W) v10 (x.ln 8)∧RS PieceR 3 (gW W) v11 (x.ln 9):=by
 have hl:=h.len (n:=12) Tryz.underlying97 (by kernel_rfl)
 have hf:=h.fld Tryz.underlying97
 obtain ⟨x0,e0⟩:=op_3 (hf 0 3 0 1 rfl (by kernel_rfl))
 obtain ⟨x1,v1_0,e1,h1_0⟩:=op_92 (hf 1 92 1 1 rfl (by kernel_rfl))
 obtain ⟨x2,v2_0,v2_1,v2_2,v2_3,v2_4,v2_5,v2_6,v2_7,v2_8,v2_9,e2,h2_0,h2_1,h2_2,h2_3,h2_4,h2_5,h2_6,h2_7,h2_8,h2_9⟩:=op_95 (hf 2 95 2 10 rfl (by kernel_rfl))
 exact ⟨(Version.mk x0 x1 (arr [((x2 0) 0),((x2 0) 1),((x2 0) 2),((x2 0) 3),((x2 0) 4),((x2 1) 0),((x2 1) 1),((x2 1) 2),((x2 1) 3),((x2 1) 4)] ((x2 0) 0))),v1_0,v2_0,v2_1,v2_2,v2_3,v2_4,v2_5,v2_6,v2_7,v2_8,v2_9,Qam (o:=0) (n:=1) e0 (Qam (o:=1) (n:=1) e1 (Qam (o:=2) (n:=10) e2 (Qde (by omega)))),h1_0,h2_0,h2_1,h2_2,h2_3,h2_4,h2_5,h2_6,h2_7,h2_8,h2_9⟩
theorem op_22 {H:Type} {enc:TypeId × Value→H} {W:World} {cs:List Value} (h:Tr enc Tryz.prog W 22 cs):∃ (x:(List Version)) (v0:V),aVs W.heap.size cs=[v0]∧RS VersionR 12 (gW W) v0 x:=by
 obtain ⟨v,l,rfl,hr⟩:=h.rs (s:=12) (R:=VersionR) Tryz.underlying22 (by kernel_rfl) (by decide) fun cs h=>by
  obtain ⟨x,v1,v2,v3,v4,v5,v6,v7,v8,v9,v10,v11,e,h1,h2,h3,h4,h5,h6,h7,h8,h9,h10,h11⟩:=op_97 h
  rw [e]
  exact ⟨x,(VersionR.of h1 h2 h3 h4 h5 h6 h7 h8 h9 h10 h11)⟩
 exact ⟨l,_,by simp only [aVs],hr⟩
theorem op_24 {H:Type} {enc:TypeId × Value→H} {W:World} {cs:List Value} (h:Tr enc Tryz.prog W 24 cs):∃ (x:Code) (v1:V),aVs W.heap.size cs=[.s x.name,v1]∧RS VersionR 12 (gW W) v1 x.vs:=by
 have hl:=h.len (n:=2) Tryz.underlying24 (by kernel_rfl)
 have hf:=h.fld Tryz.underlying24
 obtain ⟨x0,e0⟩:=op_9 (hf 0 9 0 1 rfl (by kernel_rfl))
 obtain ⟨x1,v1_0,e1,h1_0⟩:=op_22 (hf 1 22 1 1 rfl (by kernel_rfl))
 exact ⟨(Code.mk x0 x1),v1_0,Qam (o:=0) (n:=1) e0 (Qam (o:=1) (n:=1) e1 (Qde (by omega))),h1_0⟩
theorem arg_24 {H:Type} {enc:TypeId × Value→H} {W:World} {v:Value} {d:DataW H} {p:List MemPlace} {b0:Nat} (hv:Value.okWide Tryz.prog W .any b0 24 v) (h:DataW.Trod enc Tryz.prog W 0 (fun _=>true) true 24 v d p):∃ (x:Code) (v1:V),aV W.heap.size v= .agg [.s x.name,v1]∧RS VersionR 12 (gW W) v1 x.vs:=by
 obtain ⟨⟨cs⟩,rfl,_⟩:=okWide_struct Tryz.underlying24 hv
 obtain ⟨fuel,hf⟩:=h
 obtain ⟨x,v1,e,h1⟩:=op_24 (enc:=enc) (W:=W) (cs:=cs) ⟨fuel,_,hf⟩
 exact ⟨x,v1,by simp only [aV,e],h1⟩
theorem op_27 {H:Type} {enc:TypeId × Value→H} {W:World} {cs:List Value} (h:Tr enc Tryz.prog W 27 cs):∃ (x:(Int × Int)),aVs W.heap.size cs=[.i .i64 x.1,.i .i64 x.2]:=by
 have hl:=h.len (n:=2) Tryz.underlying27 (by kernel_rfl)
 have hf:=h.fld Tryz.underlying27
 obtain ⟨x0,e0⟩:=op_3 (hf 0 3 0 1 rfl (by kernel_rfl))
 obtain ⟨x1,e1⟩:=op_3 (hf 1 3 1 1 rfl (by kernel_rfl))
 exact ⟨(x0,x1),Qam (o:=0) (n:=1) e0 (Qam (o:=1) (n:=1) e1 (Qde (by omega)))⟩
theorem op_29 {H:Type} {enc:TypeId × Value→H} {W:World} {cs:List Value} (h:Tr enc Tryz.prog W 29 cs):∃ (x:Room),aVs W.heap.size cs=[.i .i64 x.id,.i .i64 x.kind,.i .i64 x.op,.i .i64 x.cr,.i .i64 x.lo,.i .i64 x.hi]:=by
 have hl:=h.len (n:=6) Tryz.underlying29 (by kernel_rfl)
 have hf:=h.fld Tryz.underlying29
 obtain ⟨x0,e0⟩:=op_3 (hf 0 3 0 1 rfl (by kernel_rfl))
 obtain ⟨x1,e1⟩:=op_3 (hf 1 3 1 1 rfl (by kernel_rfl))
 obtain ⟨x2,e2⟩:=op_3 (hf 2 3 2 1 rfl (by kernel_rfl))
 obtain ⟨x3,e3⟩:=op_3 (hf 3 3 3 1 rfl (by kernel_rfl))
 obtain ⟨x4,e4⟩:=op_27 (hf 4 27 4 2 rfl (by kernel_rfl))
 exact ⟨(Room.mk x0 x1 x2 x3 x4.1 x4.2),Qam (o:=0) (n:=1) e0 (Qam (o:=1) (n:=1) e1 (Qam (o:=2) (n:=1) e2 (Qam (o:=3) (n:=1) e3 (Qam (o:=4) (n:=2) e4 (Qde (by omega))))))⟩
theorem op_25 {H:Type} {enc:TypeId × Value→H} {W:World} {cs:List Value} (h:Tr enc Tryz.prog W 25 cs):∃ (x:(List Room)) (v0:V),aVs W.heap.size cs=[v0]∧RS RoomR 6 (gW W) v0 x:=by
 obtain ⟨v,l,rfl,hr⟩:=h.rs (s:=6) (R:=RoomR) Tryz.underlying25 (by kernel_rfl) (by decide) fun cs h=>by
  obtain ⟨x,e⟩:=op_29 h
  rw [e]
  exact ⟨x,rfl⟩
 exact ⟨l,_,by simp only [aVs],hr⟩
theorem op_37 {H:Type} {enc:TypeId × Value→H} {W:World} {cs:List Value} (h:Tr enc Tryz.prog W 37 cs):∃ (x:T_Ask) (v2:V),aVs W.heap.size cs=[.i .i64 x.Day,.i .i64 x.Formula,v2]∧RS RoomR 6 (gW W) v2 x.Rooms:=by
 have hl:=h.len (n:=3) Tryz.underlying37 (by kernel_rfl)
 have hf:=h.fld Tryz.underlying37
 obtain ⟨x0,e0⟩:=op_3 (hf 0 3 0 1 rfl (by kernel_rfl))
 obtain ⟨x1,e1⟩:=op_3 (hf 1 3 1 1 rfl (by kernel_rfl))
 obtain ⟨x2,v2_0,e2,h2_0⟩:=op_25 (hf 2 25 2 1 rfl (by kernel_rfl))
 exact ⟨(T_Ask.mk x0 x1 x2),v2_0,Qam (o:=0) (n:=1) e0 (Qam (o:=1) (n:=1) e1 (Qam (o:=2) (n:=1) e2 (Qde (by omega)))),h2_0⟩
theorem arg_37 {H:Type} {enc:TypeId × Value→H} {W:World} {v:Value} {d:DataW H} {p:List MemPlace} {b0:Nat} (hv:Value.okWide Tryz.prog W .any b0 37 v) (h:DataW.Trod enc Tryz.prog W 0 (fun _=>true) true 37 v d p):∃ (x:T_Ask) (v2:V),aV W.heap.size v= .agg [.i .i64 x.Day,.i .i64 x.Formula,v2]∧RS RoomR 6 (gW W) v2 x.Rooms:=by
 obtain ⟨⟨cs⟩,rfl,_⟩:=okWide_struct Tryz.underlying37 hv
 obtain ⟨fuel,hf⟩:=h
 obtain ⟨x,v2,e,h2⟩:=op_37 (enc:=enc) (W:=W) (cs:=cs) ⟨fuel,_,hf⟩
 exact ⟨x,v2,by simp only [aV,e],h2⟩
theorem op_53 {H:Type} {enc:TypeId × Value→H} {W:World} {cs:List Value} (h:Tr enc Tryz.prog W 53 cs):∃ (x:(Nat→Int)),aVs W.heap.size cs=[.i .i64 (x 0),.i .i64 (x 1)]:=by
 have hl:cs.length=2:=(h.array Tryz.underlying53).1.trans (by kernel_rfl)
 have hf:=h.elt Tryz.underlying53 (n:=1) (by kernel_rfl)
 obtain ⟨x0,e0⟩:=op_3 (hf 0 (by decide))
 obtain ⟨x1,e1⟩:=op_3 (hf 1 (by decide))
 exact ⟨(arr [x0,x1] x0),Qam (o:=0) (n:=1) e0 (Qam (o:=1) (n:=1) e1 (Qde (by omega)))⟩
theorem arg_53 {H:Type} {enc:TypeId × Value→H} {W:World} {v:Value} {d:DataW H} {p:List MemPlace} {b0:Nat} (hv:Value.okWide Tryz.prog W .any b0 53 v) (h:DataW.Trod enc Tryz.prog W 0 (fun _=>true) true 53 v d p):∃ (x:(Nat→Int)),aV W.heap.size v= .agg [.i .i64 (x 0),.i .i64 (x 1)]:=by
 obtain ⟨⟨cs⟩,rfl,_⟩:=okWide_arrayE Tryz.underlying53 hv
 obtain ⟨fuel,hf⟩:=h
 obtain ⟨x,e⟩:=op_53 (enc:=enc) (W:=W) (cs:=cs) ⟨fuel,_,hf⟩
 exact ⟨x,by simp only [aV,e]⟩
set_option maxRecDepth 100000 in
theorem codePlans_lifted (os:Os) (started:os.Started) (H:Type) (enc:TypeId × Value→H):
  ReturnsInHanded {} Tryz.checked os 9 .any (fun w args=>(Rows.codePlansSpec.pre enc Tryz.prog Tryz.f9 [] false w args∧laidMetH Tryz.prog Rows.codePlansRow.laid w)∧sizedMet enc Tryz.prog Tryz.f9 (OpenSpec.ofChange Rows.codePlansSpec) false w args)
    (Rows.codePlansSpec.post enc Tryz.prog Tryz.f9 false true false false):=by
 refine returnsInHanded_of_change_and (C:=Tryz.checked) (X:=fun w _=>laidMetH Tryz.prog Rows.codePlansRow.laid w) (fun _ _ _ hh h=>h.of_heap hh) own started (by kernel_rfl) Tryz.func9
  (ChangeSpec.witness_shaped (enc:=enc) (C:=Tryz.checked) (os:=os) (X:=fun w _=>laidMetH Tryz.prog Rows.codePlansRow.laid w) false (World.laidAll Tryz.prog os Rows.codePlansRow.laid) #[.agg #[.string ⟨⟨[]⟩⟩,.slice none 0 0],.agg #[.int .i64 0,.int .i64 0,.slice none 0 0],.agg #[.int .i64 0,.int .i64 0]] 8 (World.laidAll_os _ _ _)
    (World.shaped_of_ZipB (by kernel_rfl) (by kernel_rfl)) (by kernel_rfl) (by kernel_rfl) (by kernel_rfl)
    (by rw [MakeChecks.laidMetH_plain _ _ _ (by kernel_rfl)];exact laidMet_laidAll _ (by kernel_rfl) (by kernel_rfl))) ?_
 intro W base args ds gs before hval0 hW _ hsz hL _
 have hval:∀ (j:Nat) t v,Tryz.f9.params[j]? =some t→args[j]? =some v→Value.okWide Tryz.prog W .any base t v:=hval0
 have hW':=hW
 obtain ⟨p,q,hA0,hV,rfl,_,_⟩:=hW
 have hA:DataW.TrodAll enc Tryz.prog W 0 (fun _=>true) true Tryz.f9.params.toList args.toList ds p:=hA0
 rw [Tryz.params9] at hA hval
 obtain ⟨v0,vs0,d0,ds0,p0,q0,hargs,rfl,rfl,h0,r0⟩:=trodAll_cons hA
 obtain ⟨v1,vs1,d1,ds1,p1,q1,rfl,rfl,rfl,h1,r1⟩:=trodAll_cons r0
 obtain ⟨v2,vs2,d2,ds2,p2,q2,rfl,rfl,rfl,h2,r2⟩:=trodAll_cons r1
 obtain ⟨rfl,rfl,rfl⟩:=trodAll_nil r2
 obtain rfl:args= #[v0,v1,v2]:=by cases args;simp_all
 obtain ⟨rfl,rfl⟩:=trodVars_none hV
 obtain ⟨x0,w0_1,e0,k0_1⟩:=arg_24 (hval 0 24 v0 rfl rfl) h0
 obtain ⟨x1,w1_2,e1,k1_2⟩:=arg_37 (hval 1 37 v1 rfl rfl) h1
 obtain ⟨x2,e2⟩:=arg_53 (hval 2 53 v2 rfl rfl) h2
 clear hA0 hval0
 have hw:Fv Tryz.prog natS (.f 9 [] []) (aVs W.heap.size [v0,v1,v2]) (gW W) (.b true):=by
  simp only [aVs,e0,e1,e2]
  exact F_l04_CodePlans_ok x0 x1 x2 _ _ _ ⟨_,rfl,k0_1⟩ ⟨_,rfl,k1_2⟩ true (codePlans_true x0 x1 x2)
 refine (calls_of_true (f:=9) (us:=[v0,v1,v2]) W hw (by kernel_rfl) (natS_ok (pow_of_laid rfl hL)) ⟨_,Tryz.func9,(by
  intro h
  have h2:Tryz.f9.body.isNone=false:=by kernel_rfl
  rw [h] at h2
  cases h2),by kernel_rfl⟩).mono fun e W' ⟨he,hb⟩=>?_
 subst he
 exact ⟨_,rfl,post_law laidOut (by kernel_rfl) rfl Tryz.underlying4 rfl ⟨rfl,rfl,rfl⟩ hW' hb⟩
theorem codePlans_wf:Rows.codePlansRow.wf (OpenSpec.ofChange Rows.codePlansSpec)=true:=by kernel_rfl
theorem codePlans_read:Tryz.f9.params.all (Tryz.prog.readableRec ·)=true:=by kernel_rfl
theorem codePlans_tie:namedTie Tryz.prog Rows.codePlansRow.named Rows.codePlansSpec.vars=true:=by kernel_rfl
theorem codePlans_inp:(Rows.codePlansRow.inPlace == Tryz.prog.inPlace 9)=true:=by kernel_rfl
theorem codePlans_unf:(Rows.codePlansRow.unfollowed == Tryz.prog.unfollowed 9)=true:=by kernel_rfl
theorem codePlans_rec:(Rows.codePlansRow.recurses == Tryz.prog.recurses 9)=true:=by kernel_rfl
theorem codePlans_nam:(Rows.codePlansRow.named == Tryz.prog.varsNamed 9)=true:=by kernel_rfl
theorem codePlans_map:(Rows.codePlansRow.maps == (Tryz.f9.params.toList ++ Rows.codePlansSpec.plain.varTypes Tryz.prog).any (Tryz.prog.mapsRec ·))=true:=by kernel_rfl
theorem codePlans_ifa:(Rows.codePlansRow.ifaces == (Tryz.f9.params.toList ++ Rows.codePlansSpec.plain.varTypes Tryz.prog).any (Tryz.prog.ifacesRec ·))=true:=by kernel_rfl
theorem codePlans_loo:(Rows.codePlansRow.loops == (Tryz.f9.params.toList ++ Rows.codePlansSpec.plain.varTypes Tryz.prog).any (Tryz.prog.loopsFrom ·))=true:=by kernel_rfl
theorem codePlans_wid:(Rows.codePlansRow.wideKeys == (Tryz.f9.params.toList ++ Rows.codePlansSpec.plain.varTypes Tryz.prog ++ Tryz.f9.resultTypes.toList).any (Tryz.prog.wideKeysFrom ·))=true:=by kernel_rfl
theorem codePlans_pk:(Rows.codePlansRow.plainKeys == Tryz.prog.plainKeys)=true:=by kernel_rfl
theorem codePlans_lif:(Rows.codePlansRow.lifted == Tryz.prog.liftsFinal)=true:=by kernel_rfl
theorem codePlans_mak:(Tryz.prog.make == some Rows.codePlansRow.make)=true:=by kernel_rfl
theorem codePlans_vei:(Rows.codePlansRow.veiled == (Tryz.f9.params.toList ++ Rows.codePlansSpec.plain.varTypes Tryz.prog ++ Tryz.f9.resultTypes.toList).any (Tryz.prog.veiledRec ·))=true:=by kernel_rfl
theorem codePlans_vef:Rows.codePlansRow.veiledFits Tryz.prog Tryz.f9.params.toList (Tryz.f9.params.toList ++ Rows.codePlansSpec.plain.varTypes Tryz.prog ++ Tryz.f9.resultTypes.toList)=true:=by kernel_rfl
set_option maxRecDepth 100000 in
theorem codePlans_closed:joinedFacts Tryz.prog 9 Tryz.f9 Rows.codePlansSpec Rows.codePlansRow=true:=(an (an (an (an (an (an (an (an (an (an (an (an (an (an (an (an (an (an (an (an (an (an (an (an (an (an (an (an (an (an (an codePlans_wf laidOut) jf_maps) codePlans_read) codePlans_tie) (by kernel_rfl)) jf_stops) (by kernel_rfl)) jf_knobs) codePlans_inp) codePlans_unf) codePlans_rec) codePlans_nam) codePlans_map) codePlans_ifa) (by kernel_rfl)) codePlans_loo) codePlans_wid) (by kernel_rfl)) (by kernel_rfl)) (by kernel_rfl)) (by kernel_rfl)) codePlans_pk) (by kernel_rfl)) jf_heard) jf_enter) codePlans_lif) codePlans_mak) (by kernel_rfl)) (by kernel_rfl)) codePlans_vei) codePlans_vef)
theorem codePlans_fid:Tryz.prog.funcNamed "moorsom/moorsomlaw04.CodePlans"=some 9:=by kernel_rfl
theorem codePlans_row_holds:Rows.CodePlansSaid:=
 OpenClaim.holds_of_wide 9 Tryz.f9 rfl rfl rfl rfl rfl rfl rfl ⟨rfl,rfl,rfl,rfl,rfl⟩ rfl rfl rfl rfl rfl codePlans_fid Tryz.func9 codePlans_closed
  (of_decide_eq_true (by kernel_rfl)) (by unfold Func.isWrapper;first | (rw [if_pos (by decide+kernel)];kernel_rfl) | (rw [if_neg (by decide+kernel)];exact ⟨rfl,rfl⟩))
  (fun os started H enc _=>codePlans_lifted os started H enc)
theorem codePlans_holds:Rows.CodePlansCardSaid:=
 Claim7.holds_tied_plain_at .later [] [.data,.data,.data,.data,.sentinel,.sentinel,.pinned] true Rows.codePlansCard.stood.harness true
  codePlans_row_holds (fun _ h=>by cases h) (by kernel_rfl) (fun _ h=>by cases h) codePlans_row_tie rfl ⟨rfl,rfl⟩ (by kernel_rfl) rfl
  (fun f fn hf hfn=>by
    obtain rfl:f=9:=Option.some.inj (codePlans_fid.symm.trans hf) |>.symm
    obtain rfl:fn=Tryz.f9:=(Option.some.inj (Tryz.func9.symm.trans hfn)).symm
    exact ⟨by kernel_rfl,fun j t ht=>by
     rw [Tryz.params9] at ht
     have hm:t∈[24,37,53]:=by simpa using Array.mem_of_getElem? ht
     have hall:([24,37,53].all fun u=> !Tryz.prog.wantsStandIn u)=true:=by kernel_rfl
     exact (show Tryz.prog.wantsStandIn t=false by simpa using List.all_eq_true.1 hall t hm)⟩)
  (by kernel_rfl)
#print axioms codePlans_holds
end Go.Proofs.YtjflgemfeofciaaGreatDoor
