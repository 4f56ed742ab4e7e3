import Derived.Test.YtjflgemfeofciaaGreatDoorMZ1
import Derived.Test.YtjflgemfeofciaaGreatDoorMU4
namespace Go.Proofs.YtjflgemfeofciaaGreatDoor
open Go Go.Ev
set_option linter.unusedVariables false
set_option linter.unusedSimpArgs false
def cellP (l:List Piece) (r:Int × Int):List (Int × (Int × Int)):=(cellN l r.1 r.2 (nCell l)).map fun (i:Nat)=>((i:Int),cellA l r.1 r.2 i)
theorem Qel {l:List Piece} (h:lineB l=true) (r:Int × Int):Qbo l r=some ((cellP l r).map Prod.fst,(cellP l r).map Prod.snd):=by
 unfold Qbo cellP
 rw [h,List.map_map,List.map_map];rfl
def tndC (v:Version) (f:Int) (x:T_Case):T_Case:=T_Case.mk x.Pieces x.Litres (judT Prod.fst v f (fun i=>(x.Litres (i - 1)).1) (fun i=>(x.Litres (i - 1)).2),judT Prod.snd v f (fun i=>(x.Litres (i - 1)).1) (fun i=>(x.Litres (i - 1)).2))
def setC (g:Nat) (x:T_Case) (n:Int) (r:Int × Int):T_Case:=match g with
 | 0=>T_Case.mk (arr [n,x.Pieces 1,x.Pieces 2,x.Pieces 3,x.Pieces 4] n) (arr [r,x.Litres 1,x.Litres 2,x.Litres 3,x.Litres 4] r) x.Tonnages
 | 1=>T_Case.mk (arr [x.Pieces 0,n,x.Pieces 2,x.Pieces 3,x.Pieces 4] (x.Pieces 0)) (arr [x.Litres 0,r,x.Litres 2,x.Litres 3,x.Litres 4] (x.Litres 0)) x.Tonnages
 | 2=>T_Case.mk (arr [x.Pieces 0,x.Pieces 1,n,x.Pieces 3,x.Pieces 4] (x.Pieces 0)) (arr [x.Litres 0,x.Litres 1,r,x.Litres 3,x.Litres 4] (x.Litres 0)) x.Tonnages
 | 3=>T_Case.mk (arr [x.Pieces 0,x.Pieces 1,x.Pieces 2,n,x.Pieces 4] (x.Pieces 0)) (arr [x.Litres 0,x.Litres 1,x.Litres 2,r,x.Litres 4] (x.Litres 0)) x.Tonnages
 | _=>T_Case.mk (arr [x.Pieces 0,x.Pieces 1,x.Pieces 2,x.Pieces 3,n] (x.Pieces 0)) (arr [x.Litres 0,x.Litres 1,x.Litres 2,x.Litres 3,r] (x.Litres 0)) x.Tonnages
def csG (v:Version) (f:Int) (Lt:Nat→Int × Int):Nat→T_Case→List T_Case
 | 0,x=>[tndC v f x]
 | n+1,x=>(cellP (v.ln (5 * f.toNat+(4 - n))) (Lt (4 - n))).flatMap fun z=>csG v f Lt n (setC (4 - n) x z.1 z.2)
theorem cs5_eq {p:T_Plan} {x:T_Case} {v:Version} {f:Int} (hf:f=0∨f=1) (hl:allR (fun k=>lineB (v.ln k)) 10=true) (hg:grpsB p=true):F_cs5 p x v f=some (csG v f (fun i=>(p.Shares i).Litres) 0 x):=by
 have hb:((decide (f=0) || decide (f=1)) && (allR (fun k=>lineB (v.ln k)) 10 && grpsB (T_Plan.mk p.Version (arr [(T_Share.mk ((p.Shares 0).Group) ((p.Shares 0).Rooms) (x.Litres 0)),(T_Share.mk ((p.Shares 1).Group) ((p.Shares 1).Rooms) (x.Litres 1)),(T_Share.mk ((p.Shares 2).Group) ((p.Shares 2).Rooms) (x.Litres 2)),(T_Share.mk ((p.Shares 3).Group) ((p.Shares 3).Rooms) (x.Litres 3)),(T_Share.mk ((p.Shares 4).Group) ((p.Shares 4).Rooms) (x.Litres 4))] (T_Share.mk ((p.Shares 0).Group) ((p.Shares 0).Rooms) (x.Litres 0))) p.Exempt)))=true:=by
  have:grpsB (T_Plan.mk p.Version (arr [(T_Share.mk ((p.Shares 0).Group) ((p.Shares 0).Rooms) (x.Litres 0)),(T_Share.mk ((p.Shares 1).Group) ((p.Shares 1).Rooms) (x.Litres 1)),(T_Share.mk ((p.Shares 2).Group) ((p.Shares 2).Rooms) (x.Litres 2)),(T_Share.mk ((p.Shares 3).Group) ((p.Shares 3).Rooms) (x.Litres 3)),(T_Share.mk ((p.Shares 4).Group) ((p.Shares 4).Rooms) (x.Litres 4))] (T_Share.mk ((p.Shares 0).Group) ((p.Shares 0).Rooms) (x.Litres 0))) p.Exempt)=true:=hg
  rw [this,hl]
  rcases hf with rfl | rfl <;> rfl
 unfold F_cs5 Qgg ck
 rw [hb];rfl
theorem Qdh {α β:Type} {g:α→β} {l:List β} {z:α} {zs:List α} {k:Nat} (h:l.drop k=(z :: zs).map g):l[k]? =some (g z)∧l.drop (k+1)=zs.map g:=by
 constructor
 ·have:=congrArg List.head? h
  rwa [List.head?_drop] at this
 ·have:=congrArg List.tail h
  rwa [List.tail_drop] at this
theorem r42_eq (kk:Unit→Option (List T_Case)):∀ l:List T_Case,Qfs kk l=(kk ()).bind fun m=>some (l ++ m)
 | []=>by rw [Qfs];cases kk () <;> rfl
 | y :: l=>by
   rw [Qfs,r42_eq kk l]
   cases kk () <;> rfl
theorem l41_eq {p:T_Plan} {v:Version} {f:Int} {q:List Int × List (Int × Int)} {z1 z2 z3 z4 z6 z7 z8 z9 z10 z11 z12 z13 z16 z17:Int} {kk:Int × Int × Int × Int × Int × Int × Int × Int × Int × Int × Int × Int × Int × Int × Int × Int × Int→Option (List T_Case)} (hkk:∀ u,kk u=some []) {G:Int × (Int × Int)→List T_Case}:∀ (zs:List (Int × (Int × Int))) (ys:List Int) (k:Nat) (z14 z15 z5:Int),ys=zs.map Prod.fst→q.2.drop k=zs.map Prod.snd→(∀ z∈zs,F_cs5 p (T_Case.mk (arr [z1,z2,z3,z4,z.1] z1) (arr [(z6,z7),(z8,z9),(z10,z11),(z12,z13),z.2] (z6,z7)) (z16,z17)) v f=some (G z))→Qfg p v f q kk ys k z1 z2 z3 z4 z5 z6 z7 z8 z9 z10 z11 z12 z13 z14 z15 z16 z17=some (zs.flatMap G)
 | [],ys,k,z14,z15,z5,h1,h2,h3=>by
   subst h1
   exact hkk _
 | z :: zs,ys,k,z14,z15,z5,h1,h2,h3=>by
   subst h1
   obtain ⟨e1,e2⟩:=Qdh h2
   have ih:=l41_eq (p:=p) (v:=v) (f:=f) (q:=q) hkk zs (zs.map Prod.fst) (k+1) z.2.1 z.2.2 z.1 rfl e2 (fun y hy=>h3 y (List.mem_cons_of_mem _ hy))
   have h0:=h3 z List.mem_cons_self
   rw [List.map_cons,Qfg,e1]
   simp only [Option.bind_some,h0,r42_eq,ih,List.flatMap_cons]
theorem cs4_eq {p:T_Plan} {x:T_Case} {v:Version} {f:Int} (hf:f=0∨f=1) (hl:allR (fun k=>lineB (v.ln k)) 10=true) (hg:grpsB p=true):F_cs4 p x v f=some (csG v f (fun i=>(p.Shares i).Litres) 1 x):=by
 have ih:=fun y=>cs5_eq (p:=p) (x:=y) (v:=v) (f:=f) hf hl hg
 have hA:arr [(v.ln 4),(v.ln 9)] (v.ln 4) f.toNat=v.ln (5 * f.toNat+4):=by rcases hf with rfl | rfl <;> rfl
 have hk:5 * f.toNat+4 < 10:=by rcases hf with rfl | rfl <;> decide
 have hb:(decide ((0:Int)≤f) && decide (f < (2:Int)))=true:=by rcases hf with rfl | rfl <;> rfl
 unfold F_cs4
 rw [hA,hb,ck,cond_true,Qel (Qdm hl hk)]
 simp only [Option.bind_some]
 exact l41_eq (fun _=>rfl) (G:=fun z=>csG v f (fun i=>(p.Shares i).Litres) 0 (setC 4 x z.1 z.2)) _ _ _ _ _ _ rfl rfl (fun z _=>ih _)
theorem r32_eq (kk:Unit→Option (List T_Case)):∀ l:List T_Case,Qff kk l=(kk ()).bind fun m=>some (l ++ m)
 | []=>by rw [Qff];cases kk () <;> rfl
 | y :: l=>by
   rw [Qff,r32_eq kk l]
   cases kk () <;> rfl
theorem l31_eq {p:T_Plan} {v:Version} {f:Int} {q:List Int × List (Int × Int)} {z1 z2 z3 z5 z6 z7 z8 z9 z10 z11 z14 z15 z16 z17:Int} {kk:Int × Int × Int × Int × Int × Int × Int × Int × Int × Int × Int × Int × Int × Int × Int × Int × Int→Option (List T_Case)} (hkk:∀ u,kk u=some []) {G:Int × (Int × Int)→List T_Case}:∀ (zs:List (Int × (Int × Int))) (ys:List Int) (k:Nat) (z12 z13 z4:Int),ys=zs.map Prod.fst→q.2.drop k=zs.map Prod.snd→(∀ z∈zs,F_cs4 p (T_Case.mk (arr [z1,z2,z3,z.1,z5] z1) (arr [(z6,z7),(z8,z9),(z10,z11),z.2,(z14,z15)] (z6,z7)) (z16,z17)) v f=some (G z))→Qfn p v f q kk ys k z1 z2 z3 z4 z5 z6 z7 z8 z9 z10 z11 z12 z13 z14 z15 z16 z17=some (zs.flatMap G)
 | [],ys,k,z12,z13,z4,h1,h2,h3=>by
   subst h1
   exact hkk _
 | z :: zs,ys,k,z12,z13,z4,h1,h2,h3=>by
   subst h1
   obtain ⟨e1,e2⟩:=Qdh h2
   have ih:=l31_eq (p:=p) (v:=v) (f:=f) (q:=q) hkk zs (zs.map Prod.fst) (k+1) z.2.1 z.2.2 z.1 rfl e2 (fun y hy=>h3 y (List.mem_cons_of_mem _ hy))
   have h0:=h3 z List.mem_cons_self
   rw [List.map_cons,Qfn,e1]
   simp only [Option.bind_some,h0,r32_eq,ih,List.flatMap_cons]
theorem cs3_eq {p:T_Plan} {x:T_Case} {v:Version} {f:Int} (hf:f=0∨f=1) (hl:allR (fun k=>lineB (v.ln k)) 10=true) (hg:grpsB p=true):F_cs3 p x v f=some (csG v f (fun i=>(p.Shares i).Litres) 2 x):=by
 have ih:=fun y=>cs4_eq (p:=p) (x:=y) (v:=v) (f:=f) hf hl hg
 have hA:arr [(v.ln 3),(v.ln 8)] (v.ln 3) f.toNat=v.ln (5 * f.toNat+3):=by rcases hf with rfl | rfl <;> rfl
 have hk:5 * f.toNat+3 < 10:=by rcases hf with rfl | rfl <;> decide
 have hb:(decide ((0:Int)≤f) && decide (f < (2:Int)))=true:=by rcases hf with rfl | rfl <;> rfl
 unfold F_cs3
 rw [hA,hb,ck,cond_true,Qel (Qdm hl hk)]
 simp only [Option.bind_some]
 exact l31_eq (fun _=>rfl) (G:=fun z=>csG v f (fun i=>(p.Shares i).Litres) 1 (setC 3 x z.1 z.2)) _ _ _ _ _ _ rfl rfl (fun z _=>ih _)
theorem r22_eq (kk:Unit→Option (List T_Case)):∀ l:List T_Case,Qfp kk l=(kk ()).bind fun m=>some (l ++ m)
 | []=>by rw [Qfp];cases kk () <;> rfl
 | y :: l=>by
   rw [Qfp,r22_eq kk l]
   cases kk () <;> rfl
theorem l21_eq {p:T_Plan} {v:Version} {f:Int} {q:List Int × List (Int × Int)} {z1 z2 z4 z5 z6 z7 z8 z9 z12 z13 z14 z15 z16 z17:Int} {kk:Int × Int × Int × Int × Int × Int × Int × Int × Int × Int × Int × Int × Int × Int × Int × Int × Int→Option (List T_Case)} (hkk:∀ u,kk u=some []) {G:Int × (Int × Int)→List T_Case}:∀ (zs:List (Int × (Int × Int))) (ys:List Int) (k:Nat) (z10 z11 z3:Int),ys=zs.map Prod.fst→q.2.drop k=zs.map Prod.snd→(∀ z∈zs,F_cs3 p (T_Case.mk (arr [z1,z2,z.1,z4,z5] z1) (arr [(z6,z7),(z8,z9),z.2,(z12,z13),(z14,z15)] (z6,z7)) (z16,z17)) v f=some (G z))→Qfj p v f q kk ys k z1 z2 z3 z4 z5 z6 z7 z8 z9 z10 z11 z12 z13 z14 z15 z16 z17=some (zs.flatMap G)
 | [],ys,k,z10,z11,z3,h1,h2,h3=>by
   subst h1
   exact hkk _
 | z :: zs,ys,k,z10,z11,z3,h1,h2,h3=>by
   subst h1
   obtain ⟨e1,e2⟩:=Qdh h2
   have ih:=l21_eq (p:=p) (v:=v) (f:=f) (q:=q) hkk zs (zs.map Prod.fst) (k+1) z.2.1 z.2.2 z.1 rfl e2 (fun y hy=>h3 y (List.mem_cons_of_mem _ hy))
   have h0:=h3 z List.mem_cons_self
   rw [List.map_cons,Qfj,e1]
   simp only [Option.bind_some,h0,r22_eq,ih,List.flatMap_cons]
theorem cs2_eq {p:T_Plan} {x:T_Case} {v:Version} {f:Int} (hf:f=0∨f=1) (hl:allR (fun k=>lineB (v.ln k)) 10=true) (hg:grpsB p=true):F_cs2 p x v f=some (csG v f (fun i=>(p.Shares i).Litres) 3 x):=by
 have ih:=fun y=>cs3_eq (p:=p) (x:=y) (v:=v) (f:=f) hf hl hg
 have hA:arr [(v.ln 2),(v.ln 7)] (v.ln 2) f.toNat=v.ln (5 * f.toNat+2):=by rcases hf with rfl | rfl <;> rfl
 have hk:5 * f.toNat+2 < 10:=by rcases hf with rfl | rfl <;> decide
 have hb:(decide ((0:Int)≤f) && decide (f < (2:Int)))=true:=by rcases hf with rfl | rfl <;> rfl
 unfold F_cs2
 rw [hA,hb,ck,cond_true,Qel (Qdm hl hk)]
 simp only [Option.bind_some]
 exact l21_eq (fun _=>rfl) (G:=fun z=>csG v f (fun i=>(p.Shares i).Litres) 2 (setC 2 x z.1 z.2)) _ _ _ _ _ _ rfl rfl (fun z _=>ih _)
theorem r12_eq (kk:Unit→Option (List T_Case)):∀ l:List T_Case,Qfl kk l=(kk ()).bind fun m=>some (l ++ m)
 | []=>by rw [Qfl];cases kk () <;> rfl
 | y :: l=>by
   rw [Qfl,r12_eq kk l]
   cases kk () <;> rfl
theorem l11_eq {p:T_Plan} {v:Version} {f:Int} {q:List Int × List (Int × Int)} {z1 z3 z4 z5 z6 z7 z10 z11 z12 z13 z14 z15 z16 z17:Int} {kk:Int × Int × Int × Int × Int × Int × Int × Int × Int × Int × Int × Int × Int × Int × Int × Int × Int→Option (List T_Case)} (hkk:∀ u,kk u=some []) {G:Int × (Int × Int)→List T_Case}:∀ (zs:List (Int × (Int × Int))) (ys:List Int) (k:Nat) (z2 z8 z9:Int),ys=zs.map Prod.fst→q.2.drop k=zs.map Prod.snd→(∀ z∈zs,F_cs2 p (T_Case.mk (arr [z1,z.1,z3,z4,z5] z1) (arr [(z6,z7),z.2,(z10,z11),(z12,z13),(z14,z15)] (z6,z7)) (z16,z17)) v f=some (G z))→Qfi p v f q kk ys k z1 z2 z3 z4 z5 z6 z7 z8 z9 z10 z11 z12 z13 z14 z15 z16 z17=some (zs.flatMap G)
 | [],ys,k,z2,z8,z9,h1,h2,h3=>by
   subst h1
   exact hkk _
 | z :: zs,ys,k,z2,z8,z9,h1,h2,h3=>by
   subst h1
   obtain ⟨e1,e2⟩:=Qdh h2
   have ih:=l11_eq (p:=p) (v:=v) (f:=f) (q:=q) hkk zs (zs.map Prod.fst) (k+1) z.1 z.2.1 z.2.2 rfl e2 (fun y hy=>h3 y (List.mem_cons_of_mem _ hy))
   have h0:=h3 z List.mem_cons_self
   rw [List.map_cons,Qfi,e1]
   simp only [Option.bind_some,h0,r12_eq,ih,List.flatMap_cons]
theorem cs1_eq {p:T_Plan} {x:T_Case} {v:Version} {f:Int} (hf:f=0∨f=1) (hl:allR (fun k=>lineB (v.ln k)) 10=true) (hg:grpsB p=true):F_cs1 p x v f=some (csG v f (fun i=>(p.Shares i).Litres) 4 x):=by
 have ih:=fun y=>cs2_eq (p:=p) (x:=y) (v:=v) (f:=f) hf hl hg
 have hA:arr [(v.ln 1),(v.ln 6)] (v.ln 1) f.toNat=v.ln (5 * f.toNat+1):=by rcases hf with rfl | rfl <;> rfl
 have hk:5 * f.toNat+1 < 10:=by rcases hf with rfl | rfl <;> decide
 have hb:(decide ((0:Int)≤f) && decide (f < (2:Int)))=true:=by rcases hf with rfl | rfl <;> rfl
 unfold F_cs1
 rw [hA,hb,ck,cond_true,Qel (Qdm hl hk)]
 simp only [Option.bind_some]
 exact l11_eq (fun _=>rfl) (G:=fun z=>csG v f (fun i=>(p.Shares i).Litres) 3 (setC 1 x z.1 z.2)) _ _ _ _ _ _ rfl rfl (fun z _=>ih _)
theorem r02_eq (kk:Unit→Option (List T_Case)):∀ l:List T_Case,Qfk kk l=(kk ()).bind fun m=>some (l ++ m)
 | []=>by rw [Qfk];cases kk () <;> rfl
 | y :: l=>by
   rw [Qfk,r02_eq kk l]
   cases kk () <;> rfl
theorem l01_eq {p:T_Plan} {v:Version} {f:Int} {q:List Int × List (Int × Int)} {z2 z3 z4 z5 z8 z9 z10 z11 z12 z13 z14 z15 z16 z17:Int} {kk:Int × Int × Int × Int × Int × Int × Int × Int × Int × Int × Int × Int × Int × Int × Int × Int × Int→Option (List T_Case)} (hkk:∀ u,kk u=some []) {G:Int × (Int × Int)→List T_Case}:∀ (zs:List (Int × (Int × Int))) (ys:List Int) (k:Nat) (z1 z6 z7:Int),ys=zs.map Prod.fst→q.2.drop k=zs.map Prod.snd→(∀ z∈zs,F_cs1 p (T_Case.mk (arr [z.1,z2,z3,z4,z5] z.1) (arr [z.2,(z8,z9),(z10,z11),(z12,z13),(z14,z15)] z.2) (z16,z17)) v f=some (G z))→Qfo p v f q kk ys k z1 z2 z3 z4 z5 z6 z7 z8 z9 z10 z11 z12 z13 z14 z15 z16 z17=some (zs.flatMap G)
 | [],ys,k,z1,z6,z7,h1,h2,h3=>by
   subst h1
   exact hkk _
 | z :: zs,ys,k,z1,z6,z7,h1,h2,h3=>by
   subst h1
   obtain ⟨e1,e2⟩:=Qdh h2
   have ih:=l01_eq (p:=p) (v:=v) (f:=f) (q:=q) hkk zs (zs.map Prod.fst) (k+1) z.1 z.2.1 z.2.2 rfl e2 (fun y hy=>h3 y (List.mem_cons_of_mem _ hy))
   have h0:=h3 z List.mem_cons_self
   rw [List.map_cons,Qfo,e1]
   simp only [Option.bind_some,h0,r02_eq,ih,List.flatMap_cons]
theorem cs0_eq {p:T_Plan} {x:T_Case} {v:Version} {f:Int} (hf:f=0∨f=1) (hl:allR (fun k=>lineB (v.ln k)) 10=true) (hg:grpsB p=true):F_cs0 p x v f=some (csG v f (fun i=>(p.Shares i).Litres) 5 x):=by
 have ih:=fun y=>cs1_eq (p:=p) (x:=y) (v:=v) (f:=f) hf hl hg
 have hA:arr [(v.ln 0),(v.ln 5)] (v.ln 0) f.toNat=v.ln (5 * f.toNat+0):=by rcases hf with rfl | rfl <;> rfl
 have hk:5 * f.toNat+0 < 10:=by rcases hf with rfl | rfl <;> decide
 have hb:(decide ((0:Int)≤f) && decide (f < (2:Int)))=true:=by rcases hf with rfl | rfl <;> rfl
 unfold F_cs0
 rw [hA,hb,ck,cond_true,Qel (Qdm hl hk)]
 simp only [Option.bind_some]
 exact l01_eq (fun _=>rfl) (G:=fun z=>csG v f (fun i=>(p.Shares i).Litres) 4 (setC 0 x z.1 z.2)) _ _ _ _ _ _ rfl rfl (fun z _=>ih _)
end Go.Proofs.YtjflgemfeofciaaGreatDoor
namespace Go.Proofs.YtjflgemfeofciaaGreatDoor
open Go Go.Ev
set_option linter.unusedVariables false
set_option linter.unusedSimpArgs false
def noV:Version:=Version.mk 0 [] (arr [[],[],[],[],[],[],[],[],[],[]] [])
theorem on_eq (c:Code) (day f:Int):Qcg (T_question.mk c noV (-1) c.err) day f=some (if onE c.err c day f=0 then T_question.mk c (verF c day) (Qbw c day) (onE c.err c day f) else T_question.mk c noV (-1) (onE c.err c day f)):=by
 unfold Qcg
 simp only [fail_eq,by_eq,Option.bind_some]
 show cond (decide (onE c.err c day f=0)) (Option.bind (atI c.vs (Qbw c day)) _) _=_
 by_cases h:onE c.err c day f=0
 ·obtain ⟨_,_,i1,i2⟩:=onE_zero h
  have hat:atI c.vs (Qbw c day)=some (verF c day):=by
   unfold atI verF
   rw [if_pos i1,List.getD_eq_getElem?_getD,List.getElem?_eq_getElem (by omega)];rfl
  rw [if_pos h,decide_eq_true h,hat];rfl
 ·rw [if_neg h,decide_eq_false h];rfl
theorem endE_on {c:Code} {day f:Int} {l:List Room} (h:endE c day f l=0):onE c.err c day f=0:=by
 unfold endE withE at h
 exact (Qdq (by decide) h).1
def litT (v:Version) (l:List Room) (g:Nat):Int × Int:=(litI v Room.lo (g+1) l,litI v Room.hi (g+1) l)
def x0C:T_Case:=T_Case.mk (arr [0,0,0,0,0] 0) (arr [(0,0),(0,0),(0,0),(0,0),(0,0)] (0,0)) (0,0)
def cntC (v:Version) (f:Int) (Lt:Nat→Int × Int):Nat→Nat
 | 0=>1
 | n+1=>cntC v f Lt n * (cellP (v.ln (5 * f.toNat+n)) (Lt n)).length
theorem cellP_len {l:List Piece} (h:lineB l=true) (r:Int × Int):(cellP l r).length≤8:=by
 have h1:=cellN_len l r.1 r.2 (nCell l)
 have h2:=line_len h
 unfold cellP
 rw [List.length_map]
 unfold nCell at h1 ⊢
 omega
theorem mul8 {a b m:Int} (ha:0≤a∧a≤m) (hb:0≤b∧b≤8):0≤a * b∧a * b≤8 * m:=by
 have h1:=Int.mul_nonneg ha.1 hb.1
 have h2:=Int.mul_le_mul_of_nonneg_left hb.2 ha.1
 constructor
 ·exact h1
 ·omega
theorem Qft {v:Version} {f:Int} {Lt:Nat→Int × Int} {n:Nat} {m:Int} (h:lineB (v.ln (5 * f.toNat+n))=true) (hm:((cntC v f Lt n:Nat):Int)≤m) (hm2:m≤100000):wr (((cntC v f Lt n:Nat):Int) * (((cellP (v.ln (5 * f.toNat+n)) (Lt n)).length:Nat):Int))=((cntC v f Lt (n+1):Nat):Int)∧((cntC v f Lt (n+1):Nat):Int)≤8 * m:=by
 have h1:=mul8 (a:=((cntC v f Lt n:Nat):Int)) (b:=(((cellP (v.ln (5 * f.toNat+n)) (Lt n)).length:Nat):Int)) (m:=m) (by omega) (by have:=cellP_len h (Lt n);omega)
 have e:((cntC v f Lt (n+1):Nat):Int)=((cntC v f Lt n:Nat):Int) * (((cellP (v.ln (5 * f.toNat+n)) (Lt n)).length:Nat):Int):=by rw [cntC,Int.natCast_mul]
 rw [e]
 exact ⟨wr_id (by omega),h1.2⟩
theorem Qfd {α β:Type} {g:α→List β} {c:Nat} (h:∀ a,(g a).length=c):∀ l:List α,(l.flatMap g).length=l.length * c
 | []=>by simp
 | a :: l=>by rw [List.flatMap_cons,List.length_append,h,Qfd h l,List.length_cons,Nat.add_mul];omega
theorem csG_len5 (v:Version) (f:Int) (Lt:Nat→Int × Int) (x:T_Case):(csG v f Lt 5 x).length=cntC v f Lt 5:=by
 have h0:∀ x,(csG v f Lt 0 x).length=1:=fun x=>rfl
 have h1:∀ x,(csG v f Lt 1 x).length=(cellP (v.ln (5 * f.toNat+4)) (Lt 4)).length * 1:=fun x=>Qfd (fun z=>h0 _) _
 have h2:∀ x,(csG v f Lt 2 x).length=(cellP (v.ln (5 * f.toNat+3)) (Lt 3)).length * _:=fun x=>Qfd (fun z=>h1 _) _
 have h3:∀ x,(csG v f Lt 3 x).length=(cellP (v.ln (5 * f.toNat+2)) (Lt 2)).length * _:=fun x=>Qfd (fun z=>h2 _) _
 have h4:∀ x,(csG v f Lt 4 x).length=(cellP (v.ln (5 * f.toNat+1)) (Lt 1)).length * _:=fun x=>Qfd (fun z=>h3 _) _
 have h5:∀ x,(csG v f Lt 5 x).length=(cellP (v.ln (5 * f.toNat+0)) (Lt 0)).length * _:=fun x=>Qfd (fun z=>h4 _) _
 rw [h5]
 simp only [cntC,Nat.one_mul,Nat.mul_one,Nat.mul_assoc]
theorem grps_plan (v:Version) (n:Int) (l:List Room):grpsB (planD v n l)=true:=rfl
theorem ver_all {v:Version} (h:∀ k,k < 10→lineB (v.ln k)=true):allR (fun k=>lineB (v.ln k)) 10=true:=allR_mk fun k hk=>h k hk
theorem arrL {v:Version} {f:Int} (hf:f=0∨f=1):arr [(v.ln 0),(v.ln 5)] (v.ln 0) f.toNat=v.ln (5 * f.toNat+0)∧arr [(v.ln 1),(v.ln 6)] (v.ln 1) f.toNat=v.ln (5 * f.toNat+1)∧arr [(v.ln 2),(v.ln 7)] (v.ln 2) f.toNat=v.ln (5 * f.toNat+2)∧arr [(v.ln 3),(v.ln 8)] (v.ln 3) f.toNat=v.ln (5 * f.toNat+3)∧arr [(v.ln 4),(v.ln 9)] (v.ln 4) f.toNat=v.ln (5 * f.toNat+4):=by
 rcases hf with rfl | rfl <;> exact ⟨rfl,rfl,rfl,rfl,rfl⟩
def casE (v:Version) (f:Int) (l:List Room):List T_Case × Int:=if 512 < cntC v f (litT v l) 5 then ([],2) else (csG v f (litT v l) 5 x0C,0)
theorem cCases_eq (c:Code) (day f:Int) (l:List Room):Qda c day f l=some (if endE c day f l=0 then casE (verF c day) f l else ([],endE c day f l)):=by
 have hc:Qg c=some (T_question.mk c noV (-1) c.err):=rfl
 unfold Qda
 rw [hc]
 simp only [Option.bind_some,on_eq]
 by_cases h:endE c day f l=0
 ·have hz:=Qgf h
  have hw:withE 0 l=0:=by
   have h':=h
   unfold endE at h'
   rw [endE_on h] at h'
   exact h'
  rw [if_pos (endE_on h),if_pos h,with_eq]
  simp only [Option.bind_some]
  have hk:f.toNat < 2:=by rcases hz.f01 with rfl | rfl <;> decide
  have hl:=fun g (hg:g < 5)=>hz.lines (5 * f.toNat+g) (by omega)
  have hp:Qch (T_question.mk c (verF c day) (Qbw c day) (withE (onE c.err c day f) l)) l=some (planD (verF c day) (Qbw c day) l):=ckT (by rw [decide_eq_true hz.len,hz.puts];rfl)
  have hb:(decide ((0:Int)≤f) && decide (f < (2:Int)))=true:=by rcases hz.f01 with rfl | rfl <;> rfl
  obtain ⟨A0,A1,A2,A3,A4⟩:=arrL (v:=verF c day) hz.f01
  rw [hp,endE_on h,hw]
  simp only [decide_true,Bool.not_true,cond_false,Option.bind_some,hb,ck,cond_true,A0,A1,A2,A3,A4]
  rw [Qel (hl 0 (by decide)),Qel (hl 1 (by decide)),Qel (hl 2 (by decide)),Qel (hl 3 (by decide)),Qel (hl 4 (by decide)),cs0_eq hz.f01 (ver_all hz.lines) (grps_plan _ _ _)]
  simp only [Option.bind_some,List.length_map]
  have e0:((cntC (verF c day) f (litT (verF c day) l) 0:Nat):Int)=1:=rfl
  obtain ⟨e1,b1⟩:=Qft (v:=verF c day) (f:=f) (Lt:=litT (verF c day) l) (n:=0) (m:=1) (hl 0 (by decide)) (by omega) (by omega)
  obtain ⟨e2,b2⟩:=Qft (v:=verF c day) (f:=f) (Lt:=litT (verF c day) l) (n:=1) (hl 1 (by decide)) b1 (by omega)
  obtain ⟨e3,b3⟩:=Qft (v:=verF c day) (f:=f) (Lt:=litT (verF c day) l) (n:=2) (hl 2 (by decide)) b2 (by omega)
  obtain ⟨e4,b4⟩:=Qft (v:=verF c day) (f:=f) (Lt:=litT (verF c day) l) (n:=3) (hl 3 (by decide)) b3 (by omega)
  obtain ⟨e5,b5⟩:=Qft (v:=verF c day) (f:=f) (Lt:=litT (verF c day) l) (n:=4) (hl 4 (by decide)) b4 (by omega)
  rw [e0] at e1
  show cond (decide ((512:Int) < wr (wr (wr (wr (wr ((1:Int) * ((cellP ((verF c day).ln (5 * f.toNat+0)) (litT (verF c day) l 0)).length:Int)) * ((cellP ((verF c day).ln (5 * f.toNat+1)) (litT (verF c day) l 1)).length:Int)) * ((cellP ((verF c day).ln (5 * f.toNat+2)) (litT (verF c day) l 2)).length:Int)) * ((cellP ((verF c day).ln (5 * f.toNat+3)) (litT (verF c day) l 3)).length:Int)) * ((cellP ((verF c day).ln (5 * f.toNat+4)) (litT (verF c day) l 4)).length:Int)))) (some ([],2)) (cond (decide ((csG (verF c day) f (litT (verF c day) l) 5 x0C).length≤1000000)) (some (csG (verF c day) f (litT (verF c day) l) 5 x0C,0)) none)=_
  rw [e1,e2,e3,e4,e5]
  show cond (decide ((512:Int) < ((cntC (verF c day) f (litT (verF c day) l) 5:Nat):Int))) _ _=_
  unfold casE
  by_cases hn:512 < cntC (verF c day) f (litT (verF c day) l) 5
  ·rw [if_pos hn,decide_eq_true (by omega)];rfl
  ·rw [if_neg hn,decide_eq_false (by omega),csG_len5,decide_eq_true (by omega)];rfl
 ·rw [if_neg h]
  have hw:∀ (v:Version) (n e:Int),Qax (T_question.mk c v n e) l=some (T_question.mk c v n (withE e l)):=fun v n e=>by rw [with_eq]
  by_cases h2:onE c.err c day f=0
  ·rw [if_pos h2,hw]
   simp only [Option.bind_some]
   show cond (!decide (endE c day f l=0)) (some ([],endE c day f l)) _=_
   rw [decide_eq_false h];rfl
  ·rw [if_neg h2,hw]
   simp only [Option.bind_some]
   show cond (!decide (endE c day f l=0)) (some ([],endE c day f l)) _=_
   rw [decide_eq_false h];rfl
def opE (g:Int) (r:Int × Int):List Piece→Nat→List T_Open
 | [],_=>[]
 | y :: ys,k=>(if (0:Int) < (k:Int)∧r.1 < y.fr∧y.fr≤r.2 then [T_Open.mk g (k:Int) y.fr] else []) ++ opE g r ys (k+1)
theorem Qgl (g:Int) (r:Int × Int):∀ (l:List Piece) (k:Nat),(opE g r l k).length≤l.length
 | [],_=>Nat.le_refl _
 | y :: ys,k=>by
   have:=Qgl g r ys (k+1)
   rw [opE,List.length_append,List.length_cons]
   split <;> simp <;> omega
theorem op_l1 (p:T_Plan):∀ (l:List Piece) (d:List T_Open) (k:Nat),d.length+l.length≤1000→Qb p l d k=some (d ++ opE 1 (p.Shares 0).Litres l k)
 | [],d,k,_=>by rw [Qb,opE,List.append_nil]
 | y :: l,d,k,h=>by
   rw [List.length_cons] at h
   have i1:=op_l1 p l d (k+1) (by omega)
   have i2:=op_l1 p l (d ++ [T_Open.mk 1 (k:Int) y.fr]) (k+1) (by rw [List.length_append,List.length_singleton];omega)
   rw [Qb,opE,i1,i2,ckT (decide_eq_true (by omega))]
   by_cases h1:(0:Int) < (k:Int)
   ·by_cases h2:(p.Shares 0).Litres.1 < y.fr
    ·by_cases h3:y.fr≤(p.Shares 0).Litres.2
     ·rw [decide_eq_true h1,decide_eq_true h2,decide_eq_true h3,if_pos ⟨h1,h2,h3⟩, ←List.append_assoc];rfl
     ·rw [decide_eq_true h1,decide_eq_true h2,decide_eq_false h3,if_neg fun k=>h3 k.2.2];rfl
    ·rw [decide_eq_true h1,decide_eq_false h2,if_neg fun k=>h2 k.2.1];rfl
   ·rw [decide_eq_false h1,if_neg fun k=>h1 k.1];rfl
theorem op_l2 (p:T_Plan):∀ (l:List Piece) (d:List T_Open) (k:Nat),d.length+l.length≤1000→Qau p l d k=some (d ++ opE 2 (p.Shares 1).Litres l k)
 | [],d,k,_=>by rw [Qau,opE,List.append_nil]
 | y :: l,d,k,h=>by
   rw [List.length_cons] at h
   have i1:=op_l2 p l d (k+1) (by omega)
   have i2:=op_l2 p l (d ++ [T_Open.mk 2 (k:Int) y.fr]) (k+1) (by rw [List.length_append,List.length_singleton];omega)
   rw [Qau,opE,i1,i2,ckT (decide_eq_true (by omega))]
   by_cases h1:(0:Int) < (k:Int)
   ·by_cases h2:(p.Shares 1).Litres.1 < y.fr
    ·by_cases h3:y.fr≤(p.Shares 1).Litres.2
     ·rw [decide_eq_true h1,decide_eq_true h2,decide_eq_true h3,if_pos ⟨h1,h2,h3⟩, ←List.append_assoc];rfl
     ·rw [decide_eq_true h1,decide_eq_true h2,decide_eq_false h3,if_neg fun k=>h3 k.2.2];rfl
    ·rw [decide_eq_true h1,decide_eq_false h2,if_neg fun k=>h2 k.2.1];rfl
   ·rw [decide_eq_false h1,if_neg fun k=>h1 k.1];rfl
theorem op_l3 (p:T_Plan):∀ (l:List Piece) (d:List T_Open) (k:Nat),d.length+l.length≤1000→Qat p l d k=some (d ++ opE 3 (p.Shares 2).Litres l k)
 | [],d,k,_=>by rw [Qat,opE,List.append_nil]
 | y :: l,d,k,h=>by
   rw [List.length_cons] at h
   have i1:=op_l3 p l d (k+1) (by omega)
   have i2:=op_l3 p l (d ++ [T_Open.mk 3 (k:Int) y.fr]) (k+1) (by rw [List.length_append,List.length_singleton];omega)
   rw [Qat,opE,i1,i2,ckT (decide_eq_true (by omega))]
   by_cases h1:(0:Int) < (k:Int)
   ·by_cases h2:(p.Shares 2).Litres.1 < y.fr
    ·by_cases h3:y.fr≤(p.Shares 2).Litres.2
     ·rw [decide_eq_true h1,decide_eq_true h2,decide_eq_true h3,if_pos ⟨h1,h2,h3⟩, ←List.append_assoc];rfl
     ·rw [decide_eq_true h1,decide_eq_true h2,decide_eq_false h3,if_neg fun k=>h3 k.2.2];rfl
    ·rw [decide_eq_true h1,decide_eq_false h2,if_neg fun k=>h2 k.2.1];rfl
   ·rw [decide_eq_false h1,if_neg fun k=>h1 k.1];rfl
theorem op_l4 (p:T_Plan):∀ (l:List Piece) (d:List T_Open) (k:Nat),d.length+l.length≤1000→Qav p l d k=some (d ++ opE 4 (p.Shares 3).Litres l k)
 | [],d,k,_=>by rw [Qav,opE,List.append_nil]
 | y :: l,d,k,h=>by
   rw [List.length_cons] at h
   have i1:=op_l4 p l d (k+1) (by omega)
   have i2:=op_l4 p l (d ++ [T_Open.mk 4 (k:Int) y.fr]) (k+1) (by rw [List.length_append,List.length_singleton];omega)
   rw [Qav,opE,i1,i2,ckT (decide_eq_true (by omega))]
   by_cases h1:(0:Int) < (k:Int)
   ·by_cases h2:(p.Shares 3).Litres.1 < y.fr
    ·by_cases h3:y.fr≤(p.Shares 3).Litres.2
     ·rw [decide_eq_true h1,decide_eq_true h2,decide_eq_true h3,if_pos ⟨h1,h2,h3⟩, ←List.append_assoc];rfl
     ·rw [decide_eq_true h1,decide_eq_true h2,decide_eq_false h3,if_neg fun k=>h3 k.2.2];rfl
    ·rw [decide_eq_true h1,decide_eq_false h2,if_neg fun k=>h2 k.2.1];rfl
   ·rw [decide_eq_false h1,if_neg fun k=>h1 k.1];rfl
theorem op_l5 (p:T_Plan):∀ (l:List Piece) (d:List T_Open) (k:Nat),d.length+l.length≤1000→Qaw p l d k=some (d ++ opE 5 (p.Shares 4).Litres l k)
 | [],d,k,_=>by rw [Qaw,opE,List.append_nil]
 | y :: l,d,k,h=>by
   rw [List.length_cons] at h
   have i1:=op_l5 p l d (k+1) (by omega)
   have i2:=op_l5 p l (d ++ [T_Open.mk 5 (k:Int) y.fr]) (k+1) (by rw [List.length_append,List.length_singleton];omega)
   rw [Qaw,opE,i1,i2,ckT (decide_eq_true (by omega))]
   by_cases h1:(0:Int) < (k:Int)
   ·by_cases h2:(p.Shares 4).Litres.1 < y.fr
    ·by_cases h3:y.fr≤(p.Shares 4).Litres.2
     ·rw [decide_eq_true h1,decide_eq_true h2,decide_eq_true h3,if_pos ⟨h1,h2,h3⟩, ←List.append_assoc];rfl
     ·rw [decide_eq_true h1,decide_eq_true h2,decide_eq_false h3,if_neg fun k=>h3 k.2.2];rfl
    ·rw [decide_eq_true h1,decide_eq_false h2,if_neg fun k=>h2 k.2.1];rfl
   ·rw [decide_eq_false h1,if_neg fun k=>h1 k.1];rfl
def opA (v:Version) (f:Int) (l:List Room):List T_Open:=opE 1 (litT v l 0) (v.ln (5 * f.toNat+0)) 0 ++ opE 2 (litT v l 1) (v.ln (5 * f.toNat+1)) 0 ++ opE 3 (litT v l 2) (v.ln (5 * f.toNat+2)) 0 ++ opE 4 (litT v l 3) (v.ln (5 * f.toNat+3)) 0 ++ opE 5 (litT v l 4) (v.ln (5 * f.toNat+4)) 0
theorem cOpens_eq (c:Code) (day f:Int) (l:List Room):Qds c day f l=some (if endE c day f l=0 then (opA (verF c day) f l,0) else ([],endE c day f l)):=by
 have hc:Qg c=some (T_question.mk c noV (-1) c.err):=rfl
 unfold Qds
 rw [hc]
 simp only [Option.bind_some,on_eq]
 by_cases h:endE c day f l=0
 ·have hz:=Qgf h
  have hw:withE 0 l=0:=by
   have h':=h
   unfold endE at h'
   rw [endE_on h] at h'
   exact h'
  rw [if_pos (endE_on h),if_pos h,with_eq]
  simp only [Option.bind_some]
  have hk:f.toNat < 2:=by rcases hz.f01 with rfl | rfl <;> decide
  have hl:=fun g (hg:g < 5)=>line_len (hz.lines (5 * f.toNat+g) (by omega))
  have l0:=hl 0 (by decide)
  have l1:=hl 1 (by decide)
  have l2:=hl 2 (by decide)
  have l3:=hl 3 (by decide)
  have l4:=hl 4 (by decide)
  have hp:Qch (T_question.mk c (verF c day) (Qbw c day) (withE (onE c.err c day f) l)) l=some (planD (verF c day) (Qbw c day) l):=ckT (by rw [decide_eq_true hz.len,hz.puts];rfl)
  have hb:(decide ((0:Int)≤f) && decide (f < (2:Int)))=true:=by rcases hz.f01 with rfl | rfl <;> rfl
  obtain ⟨A0,A1,A2,A3,A4⟩:=arrL (v:=verF c day) hz.f01
  rw [hp,endE_on h,hw]
  simp only [decide_true,Bool.not_true,cond_false,Option.bind_some,hb,ck,cond_true,A0,A1,A2,A3,A4]
  have o0:=Qgl 1 (litT (verF c day) l 0) ((verF c day).ln (5 * f.toNat+0)) 0
  have o1:=Qgl 2 (litT (verF c day) l 1) ((verF c day).ln (5 * f.toNat+1)) 0
  have o2:=Qgl 3 (litT (verF c day) l 2) ((verF c day).ln (5 * f.toNat+2)) 0
  have o3:=Qgl 4 (litT (verF c day) l 3) ((verF c day).ln (5 * f.toNat+3)) 0
  rw [op_l1 _ _ _ _ (by simp only [List.length_nil];omega)]
  simp only [Option.bind_some,List.nil_append]
  show Option.bind (Qau _ _ (opE 1 (litT (verF c day) l 0) _ 0) 0) _=_
  rw [op_l2 _ _ _ _ (by omega)]
  simp only [Option.bind_some]
  show Option.bind (Qat _ _ (opE 1 (litT (verF c day) l 0) _ 0 ++ opE 2 (litT (verF c day) l 1) _ 0) 0) _=_
  rw [op_l3 _ _ _ _ (by simp only [List.length_append];omega)]
  simp only [Option.bind_some]
  show Option.bind (Qav _ _ (opE 1 (litT (verF c day) l 0) _ 0 ++ opE 2 (litT (verF c day) l 1) _ 0 ++ opE 3 (litT (verF c day) l 2) _ 0) 0) _=_
  rw [op_l4 _ _ _ _ (by simp only [List.length_append];omega)]
  simp only [Option.bind_some]
  show Option.bind (Qaw _ _ (opE 1 (litT (verF c day) l 0) _ 0 ++ opE 2 (litT (verF c day) l 1) _ 0 ++ opE 3 (litT (verF c day) l 2) _ 0 ++ opE 4 (litT (verF c day) l 3) _ 0) 0) _=_
  rw [op_l5 _ _ _ _ (by simp only [List.length_append];omega)]
  rfl
 ·rw [if_neg h]
  have hw:∀ (v:Version) (n e:Int),Qax (T_question.mk c v n e) l=some (T_question.mk c v n (withE e l)):=fun v n e=>by rw [with_eq]
  by_cases h2:onE c.err c day f=0
  ·rw [if_pos h2,hw]
   simp only [Option.bind_some]
   show cond (!decide (endE c day f l=0)) (some ([],endE c day f l)) _=_
   rw [decide_eq_false h];rfl
  ·rw [if_neg h2,hw]
   simp only [Option.bind_some]
   show cond (!decide (endE c day f l=0)) (some ([],endE c day f l)) _=_
   rw [decide_eq_false h];rfl
end Go.Proofs.YtjflgemfeofciaaGreatDoor
