import Derived.Test.YtjflgemfeofciaaGreatDoorQa4
import Derived.Test.YtjflgemfeofciaaGreatDoorWm4
import Derived.Test.YtjflgemfeofciaaGreatDoorMY8
namespace Go.Proofs.YtjflgemfeofciaaGreatDoor
open Go Go.Ev
set_option linter.unusedVariables false
set_option linter.unusedSimpArgs false
set_option maxRecDepth 10000
end Go.Proofs.YtjflgemfeofciaaGreatDoor
namespace Go.Proofs.YtjflgemfeofciaaGreatDoor
open Go Go.Ev
set_option linter.unusedVariables false
set_option linter.unusedSimpArgs false
set_option maxRecDepth 10000
end Go.Proofs.YtjflgemfeofciaaGreatDoor
namespace Go.Proofs.YtjflgemfeofciaaGreatDoor
open Go Go.Ev
set_option linter.unusedVariables false
set_option linter.unusedSimpArgs false
theorem cnF {α:Type} {p:Prop} [Decidable p] {x y z:α} (h: ¬ p) (k:y=z):cond (decide p) x y=z:=by rw [decide_eq_false h];exact k
theorem cnN {α:Type} {p:Prop} [Decidable p] {x y z:α} (h:p) (k:y=z):cond (!decide p) x y=z:=by rw [decide_eq_true h];exact k
theorem cnT {α:Type} {p:Prop} [Decidable p] {x y z:α} (h:p) (k:x=z):cond (decide p) x y=z:=by rw [decide_eq_true h];exact k
theorem pick_ok {p:List Int} (hp:p.length≤17592186044416) {k:Nat} (hk:k≤20):∃ a,Qei p (k:Int)=some a:=by
 unfold Qei
 by_cases h:p.length=0
 ·exact ⟨0,cnT (by omega) rfl⟩
 ·obtain ⟨r,h1,h2,h3⟩:∃ r,Qak (k:Int) (p.length:Int)=some r∧0≤r∧r < (p.length:Int):=by
   have e:(!decide ((p.length:Int)=0))=true:=by rw [decide_eq_false (by omega)];rfl
   have a1:=Int.tmod_lt_of_pos (k:Int) (b:=(p.length:Int)) (by omega)
   have a2:=Int.lt_tmod_of_pos (k:Int) (b:=(p.length:Int)) (by omega)
   refine ⟨Int.tmod (wr (Int.tmod (k:Int) (p.length:Int)+(p.length:Int))) (p.length:Int),?_,?_,Int.tmod_lt_of_pos _ (by omega)⟩
   ·unfold Qak;rw [ckT e,ckT e]
   ·rw [wr_id (by omega)]
    exact Int.tmod_nonneg _ (by omega)
  obtain ⟨j,rfl⟩:∃ j:Nat,r=j:=⟨r.toNat,by omega⟩
  refine ⟨p[j]'(by omega),cnF (by omega) ?_⟩
  rw [h1]
  simp only [Option.bind_some,atI_nat]
  rw [List.getElem?_eq_getElem (by omega)];rfl
theorem sums_l1 {v:Version} (hv:v.puts.all Put.ok=true) {p:List Int} (hp:p.length≤17592186044416):∀ (ys:List Room) (k:Nat) (z1 z2 z3 z4 z5 n:Int),(∀ r∈ys,0≤r.lo∧r.lo≤r.hi∧r.hi≤1000000000)→k+ys.length≤20→0≤n→n+ys.length≤20→
  (0≤z1∧z1≤n * 1000000000)→(0≤z2∧z2≤n * 1000000000)→(0≤z3∧z3≤n * 1000000000)→(0≤z4∧z4≤n * 1000000000)→(0≤z5∧z5≤n * 1000000000)→
  ∃ e1 e2 e3 e4 e5,Qbf v p ys k z1 z2 z3 z4 z5=some (e1,e2,e3,e4,e5)∧(z1+sumI (inG v Room.lo 1) ys≤e1∧e1≤z1+sumI (inG v Room.hi 1) ys)∧(z2+sumI (inG v Room.lo 2) ys≤e2∧e2≤z2+sumI (inG v Room.hi 2) ys)∧(z3+sumI (inG v Room.lo 3) ys≤e3∧e3≤z3+sumI (inG v Room.hi 3) ys)∧(z4+sumI (inG v Room.lo 4) ys≤e4∧e4≤z4+sumI (inG v Room.hi 4) ys)∧(z5+sumI (inG v Room.lo 5) ys≤e5∧e5≤z5+sumI (inG v Room.hi 5) ys)
 | [],k,z1,z2,z3,z4,z5,n,_,_,_,_,_,_,_,_,_=>⟨z1,z2,z3,z4,z5,rfl,by simp only [sumI];omega,by simp only [sumI];omega,by simp only [sumI];omega,by simp only [sumI];omega,by simp only [sumI];omega⟩
 | y :: ys,k,z1,z2,z3,z4,z5,n,hr,hk,h0,hn,b1,b2,b3,b4,b5=>by
  have hy:=hr y List.mem_cons_self
  have ih:=fun w1 w2 w3 w4 w5=>sums_l1 hv hp ys (k+1) w1 w2 w3 w4 w5 (n+1) (fun r h=>hr r (List.mem_cons_of_mem _ h)) (by rw [List.length_cons] at hk;omega) (by omega) (by rw [List.length_cons] at hn;omega)
  rw [List.length_cons] at hk hn
  obtain ⟨a,ha⟩:=pick_ok hp (k:=k) (by omega)
  have e1:wr (y.hi - y.lo)=y.hi - y.lo:=wr_id (by omega)
  have e2:wr (y.hi - y.lo+1)=y.hi - y.lo+1:=wr_id (by omega)
  obtain ⟨m,m1,m2,m3⟩:=mod_big a (m:=y.hi - y.lo+1) (by omega)
  have e3:wr (y.lo+m)=y.lo+m:=wr_id (by omega)
  have e4:∀ z:Int,0≤z∧z≤n * 1000000000→wr (z+(y.lo+m))=z+(y.lo+m):=fun z hz=>wr_id (by omega)
  have hb:=grp_bd hv y
  have hg:F_r04_group v y=some ((grp v y).1,(grp v y).2):=ckT hv
  rw [Qbf,hg]
  simp only [Option.bind_some,ha,e1,e2,m1,e3,e4 z1 b1,e4 z2 b2,e4 z3 b3,e4 z4 b4,e4 z5 b5,sumI,inG]
  have:(grp v y).1=0∨(grp v y).1=1∨(grp v y).1=2∨(grp v y).1=3∨(grp v y).1=4∨(grp v y).1=5:=by omega
  rcases this with e | e | e | e | e | e <;> rw [e]
  ·obtain ⟨e1,e2,e3,e4,e5,x0,x1,x2,x3,x4,x5⟩:=ih z1 z2 z3 z4 z5 (by omega) (by omega) (by omega) (by omega) (by omega)
   exact ⟨e1,e2,e3,e4,e5,x0,by simp;omega,by simp;omega,by simp;omega,by simp;omega,by simp;omega⟩
  ·obtain ⟨e1,e2,e3,e4,e5,x0,x1,x2,x3,x4,x5⟩:=ih (z1+(y.lo+m)) z2 z3 z4 z5 (by omega) (by omega) (by omega) (by omega) (by omega)
   exact ⟨e1,e2,e3,e4,e5,x0,by simp;omega,by simp;omega,by simp;omega,by simp;omega,by simp;omega⟩
  ·obtain ⟨e1,e2,e3,e4,e5,x0,x1,x2,x3,x4,x5⟩:=ih z1 (z2+(y.lo+m)) z3 z4 z5 (by omega) (by omega) (by omega) (by omega) (by omega)
   exact ⟨e1,e2,e3,e4,e5,x0,by simp;omega,by simp;omega,by simp;omega,by simp;omega,by simp;omega⟩
  ·obtain ⟨e1,e2,e3,e4,e5,x0,x1,x2,x3,x4,x5⟩:=ih z1 z2 (z3+(y.lo+m)) z4 z5 (by omega) (by omega) (by omega) (by omega) (by omega)
   exact ⟨e1,e2,e3,e4,e5,x0,by simp;omega,by simp;omega,by simp;omega,by simp;omega,by simp;omega⟩
  ·obtain ⟨e1,e2,e3,e4,e5,x0,x1,x2,x3,x4,x5⟩:=ih z1 z2 z3 (z4+(y.lo+m)) z5 (by omega) (by omega) (by omega) (by omega) (by omega)
   exact ⟨e1,e2,e3,e4,e5,x0,by simp;omega,by simp;omega,by simp;omega,by simp;omega,by simp;omega⟩
  ·obtain ⟨e1,e2,e3,e4,e5,x0,x1,x2,x3,x4,x5⟩:=ih z1 z2 z3 z4 (z5+(y.lo+m)) (by omega) (by omega) (by omega) (by omega) (by omega)
   exact ⟨e1,e2,e3,e4,e5,x0,by simp;omega,by simp;omega,by simp;omega,by simp;omega,by simp;omega⟩
theorem sums_ok {v:Version} (hv:v.puts.all Put.ok=true) {p:List Int} (hp:p.length≤17592186044416) {l:List Room} (h:Qck l=0):∃ s,Qfj v l p=some s∧∀ k,k < 5→litI v Room.lo (k+1) l≤s k∧s k≤litI v Room.hi (k+1) l:=by
 obtain ⟨e1,e2,e3,e4,e5,x0,x1,x2,x3,x4,x5⟩:=sums_l1 hv hp l 0 0 0 0 0 0 0 (rooms_in h) (by have:=rooms20 h;omega) (by omega) (by have:=rooms20 h;omega) (by omega) (by omega) (by omega) (by omega) (by omega)
 have q:=fun i=>lit_eq (v:=v) (i:=i) h
 refine ⟨arr [e1,e2,e3,e4,e5] e1,by unfold Qfj;rw [x0];rfl,fun k hk=>?_⟩
 rw [(q (k+1)).1,(q (k+1)).2]
 match k,hk with
 | 0,_=>show sumI (inG v Room.lo 1) l≤e1∧e1≤sumI (inG v Room.hi 1) l;omega
 | 1,_=>show sumI (inG v Room.lo 2) l≤e2∧e2≤sumI (inG v Room.hi 2) l;omega
 | 2,_=>show sumI (inG v Room.lo 3) l≤e3∧e3≤sumI (inG v Room.hi 3) l;omega
 | 3,_=>show sumI (inG v Room.lo 4) l≤e4∧e4≤sumI (inG v Room.hi 4) l;omega
 | 4,_=>show sumI (inG v Room.lo 5) l≤e5∧e5≤sumI (inG v Room.hi 5) l;omega
theorem judT_mid {v:Version} {f:Int} (hf:f=0∨f=1) (hl:∀ k,k < 10→lineB (v.ln k)=true) {lo hi x:Nat→Int} (h0:∀ i,0≤lo i) (h4:∀ i,hi i≤20000000000) (hx:∀ k,k < 5→lo (k+1)≤x k∧x k≤hi (k+1)):judT Prod.fst v f lo hi≤downI (tonS closV v f.toNat (x 0) (x 1) (x 2) (x 3) (x 4))∧downI (tonS closV v f.toNat (x 0) (x 1) (x 2) (x 3) (x 4))≤judT Prod.snd v f lo hi:=by
 have hk:f.toNat < 2:=by rcases hf with rfl | rfl <;> decide
 have le:=fun (j:Nat) (hj:j < 5)=>ext_mid (hl (5 * f.toNat+j) (by omega)) (h0 (j+1)) (hx j hj) (h4 (j+1))
 have bd:=fun (j:Nat) (hj:j < 5)=>line_bd (hl (5 * f.toNat+j) (by omega)) (h0 (j+1)) (by have:=hx j hj;omega) (h4 (j+1))
 have bd2:=fun (j:Nat) (hj:j < 5)=>closV_bd (hl (5 * f.toNat+j) (by omega)) (m:=x j) (by have:=hx j hj;have:=h0 (j+1);have:=h4 (j+1);omega)
 have l0:=le 0 (by decide)
 have l1:=le 1 (by decide)
 have l2:=le 2 (by decide)
 have l3:=le 3 (by decide)
 have l4:=le 4 (by decide)
 have b0:=bd 0 (by decide)
 have b1:=bd 1 (by decide)
 have b2:=bd 2 (by decide)
 have b3:=bd 3 (by decide)
 have b4:=bd 4 (by decide)
 have d0:=bd2 0 (by decide)
 have d1:=bd2 1 (by decide)
 have d2:=bd2 2 (by decide)
 have d3:=bd2 3 (by decide)
 have d4:=bd2 4 (by decide)
 clear le bd bd2 h0 h4 hl hx
 simp only [Nat.add_zero,Nat.zero_add,Nat.reduceAdd] at l0 l1 l2 l3 l4 b0 b1 b2 b3 b4 d0
 unfold judT judL
 simp only [Nat.sub_self,Nat.add_zero,Nat.reduceSub]
 rw [Qfu b0.1 b1.1 b2.1 b3.1 b4.1,Qfu d0 d1 d2 d3 d4,Qfu b0.2 b1.2 b2.2 b3.2 b4.2]
 exact ⟨downI_mono (by omega) (by omega) (by omega),downI_mono (by omega) (by omega) (by omega)⟩
theorem tonE_at {c:Code} {n:Nat} {y:Version} {f:Int} (h1:c.err=0) (hy:c.vs[n]? =some y) (hf:f=0∨f=1) {x:Nat→Int} (hx:∀ k,k < 5→0≤x k∧x k≤20000000000):tonE c n f (x 0) (x 1) (x 2) (x 3) (x 4)=0∧tonR closV c n f (x 0) (x 1) (x 2) (x 3) (x 4)=downI (tonS closV y f.toNat (x 0) (x 1) (x 2) (x 3) (x 4)):=by
 have hn:=(List.getElem?_eq_some_iff.1 hy).1
 have e:tonE c n f (x 0) (x 1) (x 2) (x 3) (x 4)=0:=by
  unfold tonE byE atE okX
  rw [h1,Qbr (n:=(n:Int)) (by omega),Qbr (hx 0 (by decide)),Qbr (hx 1 (by decide)),Qbr (hx 2 (by decide)),Qbr (hx 3 (by decide)),Qbr (hx 4 (by decide))]
  rcases hf with rfl | rfl <;> rfl
 refine ⟨e,?_⟩
 unfold tonR
 rw [if_pos e,Int.toNat_natCast,List.getD_eq_getElem?_getD,hy];rfl
end Go.Proofs.YtjflgemfeofciaaGreatDoor
namespace Go.Proofs.YtjflgemfeofciaaGreatDoor
open Go Go.Ev
set_option linter.unusedVariables false
set_option linter.unusedSimpArgs false
end Go.Proofs.YtjflgemfeofciaaGreatDoor
