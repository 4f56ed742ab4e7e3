import Derived.Test.YtjflgemfeofciaaGreatDoorWm4
import Derived.Test.YtjflgemfeofciaaGreatDoorMU4
namespace Go.Proofs.YtjflgemfeofciaaGreatDoor
open Go Go.Ev
set_option linter.unusedVariables false
set_option linter.unusedSimpArgs false
theorem Qdb (n:Int) {m:Int} (h:0 < m∧m≤1000000):∃ r,Qak n m=some r∧0≤r∧r < m:=by
 have e:(!decide (m=0))=true:=by rw [decide_eq_false (by omega)];rfl
 have a1:=Int.tmod_lt_of_pos n h.1
 have a2:=Int.lt_tmod_of_pos n h.1
 refine ⟨Int.tmod (wr (Int.tmod n m+m)) m,?_,?_,Int.tmod_lt_of_pos _ h.1⟩
 ·unfold Qak;rw [ckT e,ckT e]
 ·rw [wr_id (by omega)]
  exact Int.tmod_nonneg _ (by omega)
theorem rooms_l1:∀ (ys:List (Nat→Int)) (d:List Room) (id:Int) (k:Nat),d.length=k→k≤8→0≤id→id≤5 * k→
  (∀ j r,d[j]? =some r→r.ok=true∧r.id≤id∧(j=0∨∀ q,d[j - 1]? =some q→q.id < r.id))→
  ∃ e,Qcg ys d id k=some e∧e.length≤8∧∀ j r,e[j]? =some r→r.ok=true∧(j=0∨∀ q,e[j - 1]? =some q→q.id < r.id)
 | [],d,id,k,h1,h2,_,_,h3=>⟨d,rfl,by omega,fun j r hr=>⟨(h3 j r hr).1,(h3 j r hr).2.2⟩⟩
 | y :: ys,d,id,k,h1,h2,h4,h5,h3=>by
  rw [Qcg]
  by_cases hk:(k:Int) < 8
  ·obtain ⟨a0,e0,b0,c0⟩:=Qdb (y 0) (m:=5) (by omega)
   obtain ⟨a1,e1,b1,c1⟩:=Qdb (y 1) (m:=1500) (by omega)
   obtain ⟨a2,e2,b2,c2⟩:=Qdb (y 2) (m:=7) (by omega)
   obtain ⟨a3,e3,b3,c3⟩:=Qdb (y 3) (m:=9) (by omega)
   obtain ⟨a4,e4,b4,c4⟩:=Qdb (wr (Int.tdiv (y 3) 9)) (m:=9) (by omega)
   obtain ⟨a5,e5,b5,c5⟩:=Qdb (y 4) (m:=700) (by omega)
   rw [decide_eq_true hk,e0,e1,e2,e3,e4,e5]
   simp only [cond_true,Option.bind_some]
   rw [ckT (decide_eq_true (by omega)),wr_id (n:=1+a0) (by omega),wr_id (n:=id+(1+a0)) (by omega),wr_id (n:=1+a2) (by omega),wr_id (n:=a1+a5) (by omega)]
   refine rooms_l1 ys _ _ (k+1) (by simp only [List.length_append,List.length_singleton];omega) (by omega) (by omega) (by omega) ?_
   intro j r hr
   by_cases hj:j < d.length
   ·rw [List.getElem?_append_left hj] at hr
    obtain ⟨x1,x2,x3⟩:=h3 j r hr
    refine ⟨x1,by omega,?_⟩
    rcases x3 with x3 | x3
    ·exact .inl x3
    ·refine .inr fun q hq=>x3 q ?_
     rwa [List.getElem?_append_left (by omega)] at hq
   ·rw [List.getElem?_append_right (by omega)] at hr
    have hj2:j=d.length:=by
     have:=(List.getElem?_eq_some_iff.1 hr).1
     simp only [List.length_singleton] at this
     omega
    subst hj2
    rw [Nat.sub_self] at hr
    obtain rfl:=Option.some.inj hr
    refine ⟨?_,Int.le_refl _,?_⟩
    ·unfold Room.ok Qag
     simp only [Bool.and_eq_true,decide_eq_true_eq,Bool.not_eq_true',decide_eq_false_iff_not]
     omega
    ·by_cases h0:d.length=0
     ·exact .inl h0
     ·refine .inr fun q hq=>?_
      rw [List.getElem?_append_left (by omega)] at hq
      have:=(h3 _ q hq).2.1
      show q.id < id+(1+a0)
      omega
  ·rw [decide_eq_false hk]
   exact ⟨d,rfl,by omega,fun j r hr=>⟨(h3 j r hr).1,(h3 j r hr).2.2⟩⟩
theorem rooms_ok (l:List (Nat→Int)):∃ e,Qen l=some e∧Qck e=0:=by
 obtain ⟨e,h1,h2,h3⟩:=rooms_l1 l [] 0 0 rfl (by omega) (by omega) (by omega) (fun j r hr=>by simp at hr)
 refine ⟨e,?_,?_⟩
 ·unfold Qen;rw [h1];rfl
 ·unfold Qck
  rw [if_pos ⟨by omega,allR_mk fun k hk=>(rgood_iff (List.getElem?_eq_getElem hk)).2 (h3 k _ (List.getElem?_eq_getElem hk))⟩]
theorem tests_l3 (y:Nat→Int) (gr:Int):∀ (n:Nat) (z:Int) (d:List Test),0≤z→z≤2→4≤z+n→(d.length:Int)=z→(∀ t∈d,t.ok=true)→
  ∃ e,Qbt y n z gr d=some (gr,e)∧e.length≤2∧∀ t∈e,t.ok=true
 | 0,z,d,h0,h1,h2,_,_=>by omega
 | n+1,z,d,h0,h1,h2,h3,h4=>by
  obtain ⟨a0,e0,b0,c0⟩:=Qdb (y 1) (m:=3) (by omega)
  rw [Qbt,e0,Option.bind_some]
  by_cases hz:z < a0
  ·obtain ⟨a1,e1,b1,c1⟩:=Qdb (wr (y 2+z)) (m:=3) (by omega)
   obtain ⟨a2,e2,b2,c2⟩:=Qdb (wr (wr (Int.tdiv (y 2) 3)+z)) (m:=6) (by omega)
   obtain ⟨a3,e3,b3,c3⟩:=Qdb (wr (y 3+z)) (m:=8) (by omega)
   rw [decide_eq_true hz,e1,e2,e3]
   simp only [cond_true,Option.bind_some]
   rw [ckT (decide_eq_true (by omega)),wr_id (n:=z+1) (by omega),wr_id (n:=1+a1) (by omega),wr_id (n:=1+a2) (by omega)]
   refine tests_l3 y gr n (z+1) _ (by omega) (by omega) (by omega) (by simp only [List.length_append,List.length_singleton];omega) ?_
   intro t ht
   rcases List.mem_append.1 ht with ht | ht
   ·exact h4 t ht
   ·rw [List.mem_singleton] at ht
    subst ht
    unfold Test.ok Qag
    simp only [Bool.and_eq_true,decide_eq_true_eq]
    omega
  ·rw [decide_eq_false hz]
   exact ⟨d,rfl,by omega,h4⟩
theorem puts_l2:∀ (ys:List (Nat→Int)) (k:Nat) (z:Int) (d:List Put),d.length=k→k≤6→(∀ p∈d,p.ok=true)→
  ∃ e,Qbs ys k z d=some (z,e,[],[],[],[],[],[],[],[],[],[])∧e.length≤6∧∀ p∈e,p.ok=true
 | [],k,z,d,h1,h2,h3=>⟨d,rfl,by omega,h3⟩
 | y :: ys,k,z,d,h1,h2,h3=>by
  rw [Qbs]
  by_cases hk:(k:Int) < 6
  ·obtain ⟨a0,e0,b0,c0⟩:=Qdb (y 0) (m:=4) (by omega)
   obtain ⟨ts,e1,b1,c1⟩:=tests_l3 y a0 5 0 [] (by omega) (by omega) (by omega) rfl (fun t ht=>by cases ht)
   rw [decide_eq_true hk,e0]
   simp only [cond_true,Option.bind_some,e1]
   rw [ckT (decide_eq_true (by omega))]
   refine puts_l2 ys (k+1) z _ (by simp only [List.length_append,List.length_singleton];omega) (by omega) ?_
   intro p hp
   rcases List.mem_append.1 hp with hp | hp
   ·exact h3 p hp
   ·rw [List.mem_singleton] at hp
    subst hp
    unfold Put.ok Qag
    simp only [Bool.and_eq_true,decide_eq_true_eq]
    refine ⟨by omega,by omega,List.all_eq_true.2 c1⟩
  ·rw [decide_eq_false hk]
   exact ⟨d,rfl,by omega,h3⟩
structure LInv (d:List Piece):Prop where
 len:d.length≤8
 ok:∀ (j:Nat) (p:Piece),d[j]? =some p→(Qag p.base (-1000000000000) 1000000000000=true∧Qag p.rate (-1000000) 1000000=true)∧0≤p.fr∧p.fr≤1000 * j∧(j=0→p.fr=0)∧(j=0∨∀ q,d[j - 1]? =some q→q.fr < p.fr)
theorem LInv.nil:LInv []:=⟨by decide,fun j p h=>by simp at h⟩
theorem LInv.line {d:List Piece} (h:LInv d):lineB d=true:=by
 unfold lineB
 rw [decide_eq_true h.len,Bool.true_and]
 refine allR_mk fun j hj=>?_
 have hp:=List.getElem?_eq_getElem hj
 obtain ⟨⟨a1,a2⟩,a3,a4,a5,a6⟩:=h.ok j _ hp
 have hl:=h.len
 unfold pgood
 rw [hp]
 simp only [a1,a2,Bool.true_and,Bool.and_eq_true]
 refine ⟨?_,?_⟩
 ·unfold Qag
  rw [decide_eq_true a3,decide_eq_true (by omega)];rfl
 ·by_cases h0:j=0
  ·rw [if_pos h0,decide_eq_true (a5 h0)]
  ·rw [if_neg h0]
   rcases a6 with a6 | a6
   ·exact absurd a6 h0
   ·cases hq:d[j - 1]? with
    | none=>rfl
    | some q=>exact decide_eq_true (a6 q hq)
theorem LInv.app {d:List Piece} (h:LInv d) (hl:d.length < 8) {p:Piece} (hb:Qag p.base (-1000000000000) 1000000000000=true) (hr:Qag p.rate (-1000000) 1000000=true) (h0:0≤p.fr∧p.fr≤1000 * d.length) (hz:d.length=0→p.fr=0) (hq:∀ q,d[d.length - 1]? =some q→q.fr < p.fr):LInv (d ++ [p]):=by
 refine ⟨by simp only [List.length_append,List.length_singleton];omega,fun j r hr'=>?_⟩
 by_cases hj:j < d.length
 ·rw [List.getElem?_append_left hj] at hr'
  obtain ⟨a1,a3,a4,a5,a6⟩:=h.ok j r hr'
  refine ⟨a1,a3,a4,a5,?_⟩
  rcases a6 with a6 | a6
  ·exact .inl a6
  ·refine .inr fun q hq'=>a6 q ?_
   rwa [List.getElem?_append_left (by omega)] at hq'
 ·rw [List.getElem?_append_right (by omega)] at hr'
  have hj2:j=d.length:=by
   have:=(List.getElem?_eq_some_iff.1 hr').1
   simp only [List.length_singleton] at this
   omega
  subst hj2
  rw [Nat.sub_self] at hr'
  obtain rfl:=Option.some.inj hr'
  refine ⟨⟨hb,hr⟩,h0.1,h0.2,hz,?_⟩
  by_cases h1:d.length=0
  ·exact .inl h1
  ·refine .inr fun q hq'=>hq q ?_
   rwa [List.getElem?_append_left (by omega)] at hq'
def pcE (y:Nat→Int) (d:List Piece) (q35 q36:Int):Option (Int × Int):=(cond (decide ((0:Int) < (d.length:Int))) (((atI d ((d.length:Int) - 1)).bind fun y39=>((Qak (y 1) 900).bind fun q40=>((((Qak (y 4) 3).bind fun q41=>(cond (decide (q41=0)) (some (wr (y39.base+(wr ((wr (y39.rate - (wr (q36 - 300)))) * (wr ((wr (y39.fr+1))+q40))))))) (some (wr (q35 - 100000)))))).bind fun z8_1=>((cond (!(Qag z8_1 (-1000000000000) 1000000000000)) (some ((wr ((wr (y39.fr+1))+q40)),0)) (some ((wr ((wr (y39.fr+1))+q40)),z8_1)))))))) (some (0,(wr (q35 - 100000)))))
theorem Qbr {n lo hi:Int} (h:lo≤n∧n≤hi):Qag n lo hi=true:=by
 unfold Qag;rw [decide_eq_true h.1,decide_eq_true h.2];rfl
theorem pc_ok {d:List Piece} (h:LInv d) (hl:d.length < 8) (y:Nat→Int) {q35 q36:Int} (b35:0≤q35∧q35 < 400000) (b36:0≤q36∧q36 < 900):∃ a b,pcE y d q35 q36=some (a,b)∧LInv (d ++ [Piece.mk a b (wr (q36 - 300))]):=by
 have hr:Qag (wr (q36 - 300)) (-1000000) 1000000=true:=by rw [wr_id (by omega)];exact Qbr (by omega)
 unfold pcE
 by_cases h0:(0:Int) < (d.length:Int)
 ·have hk:d.length - 1 < d.length:=by omega
  have hy:=List.getElem?_eq_getElem hk
  have hat:atI d ((d.length:Int) - 1)=some d[d.length - 1]:=by rw [show ((d.length:Int) - 1)=((d.length - 1:Nat):Int) from by omega,atI_nat,hy]
  obtain ⟨_,f0,f1,_,_⟩:=h.ok _ _ hy
  obtain ⟨a0,e0,b0,c0⟩:=Qdb (y 1) (m:=900) (by omega)
  obtain ⟨a1,e1,b1,c1⟩:=Qdb (y 4) (m:=3) (by omega)
  have hfr:wr (wr (d[d.length - 1].fr+1)+a0)=d[d.length - 1].fr+1+a0:=by rw [wr_id (n:=d[d.length - 1].fr+1) (by omega),wr_id (by omega)]
  rw [decide_eq_true h0,hat,e0,e1]
  simp only [cond_true,Option.bind_some]
  have hz:∃ z,(cond (decide (a1=0)) (some (wr (d[d.length - 1].base+(wr ((wr (d[d.length - 1].rate - (wr (q36 - 300)))) * (wr ((wr (d[d.length - 1].fr+1))+a0))))))) (some (wr (q35 - 100000))))=some z:=by
   cases decide (a1=0) <;> exact ⟨_,rfl⟩
  obtain ⟨z,hz⟩:=hz
  rw [hz,Option.bind_some,hfr]
  have hq:∀ q,d[d.length - 1]? =some q→q.fr < d[d.length - 1].fr+1+a0:=fun q hq=>by
   rw [hy] at hq
   obtain rfl:=Option.some.inj hq
   omega
  cases hw:Qag z (-1000000000000) 1000000000000 with
  | true=>exact ⟨_,_,rfl,h.app hl hw hr (by dsimp only;omega) (fun h=>by omega) hq⟩
  | false=>exact ⟨_,_,rfl,h.app hl (Qbr (by dsimp only;omega)) hr (by dsimp only;omega) (fun h=>by omega) hq⟩
 ·rw [decide_eq_false h0]
  refine ⟨_,_,rfl,h.app hl (Qbr ?_) hr (by dsimp only;omega) (fun _=>rfl) fun q hq=>?_⟩
  ·dsimp only;rw [wr_id (by omega)];omega
  ·have:=(List.getElem?_eq_some_iff.1 hq).1
   omega
theorem Qcv:∀ (ys:List (Nat→Int)) (k:Nat) (z:Int) (ps:List Put) (d0 d1 d2 d3 d4 d5 d6 d7 d8 d9:List Piece),LInv d0→LInv d1→LInv d2→LInv d3→LInv d4→LInv d5→LInv d6→LInv d7→LInv d8→LInv d9→
  ∃ e0 e1 e2 e3 e4 e5 e6 e7 e8 e9,Qaj ys k z ps d0 d1 d2 d3 d4 d5 d6 d7 d8 d9=some (z,ps,e0,e1,e2,e3,e4,e5,e6,e7,e8,e9)∧LInv e0∧LInv e1∧LInv e2∧LInv e3∧LInv e4∧LInv e5∧LInv e6∧LInv e7∧LInv e8∧LInv e9
 | [],k,z,ps,d0,d1,d2,d3,d4,d5,d6,d7,d8,d9,H0,H1,H2,H3,H4,H5,H6,H7,H8,H9=>⟨d0,d1,d2,d3,d4,d5,d6,d7,d8,d9,rfl,H0,H1,H2,H3,H4,H5,H6,H7,H8,H9⟩
 | y :: ys,k,z,ps,d0,d1,d2,d3,d4,d5,d6,d7,d8,d9,H0,H1,H2,H3,H4,H5,H6,H7,H8,H9=>by
  rw [Qaj]
  by_cases hk:(k:Int) < 14
  ·obtain ⟨a0,x0,b0,c0⟩:=Qdb (y 0) (m:=2) (by omega)
   obtain ⟨a1,x1,b1,c1⟩:=Qdb (wr (Int.tdiv (y 0) 2)) (m:=3) (by omega)
   obtain ⟨a2,x2,b2,c2⟩:=Qdb (y 2) (m:=400000) (by omega)
   obtain ⟨a3,x3,b3,c3⟩:=Qdb (y 3) (m:=900) (by omega)
   rw [decide_eq_true hk,x0,x1]
   have i0:a0=0∨a0=1:=by omega
   have i1:a1=0∨a1=1∨a1=2:=by omega
   have t00:decide ((0:Int)=0)=true:=rfl
   have t01:decide ((0:Int)=1)=false:=rfl
   have t02:decide ((0:Int)=2)=false:=rfl
   have t10:decide ((1:Int)=0)=false:=rfl
   have t11:decide ((1:Int)=1)=true:=rfl
   have t12:decide ((1:Int)=2)=false:=rfl
   have t20:decide ((2:Int)=0)=false:=rfl
   have t21:decide ((2:Int)=1)=false:=rfl
   have t22:decide ((2:Int)=2)=true:=rfl
   rcases i0 with rfl | rfl <;> rcases i1 with rfl | rfl | rfl <;> simp only [t00,t01,t02,t10,t11,t12,t20,t21,t22,decide_true,decide_false,cond_true,cond_false,Option.bind_some]
   ·by_cases h8:(d0.length:Int)=8
    ·rw [decide_eq_true h8]
     exact Qcv ys (k+1) z ps d0 d1 d2 d3 d4 d5 d6 d7 d8 d9 H0 H1 H2 H3 H4 H5 H6 H7 H8 H9
    ·obtain ⟨a,b,hp,hI⟩:=pc_ok H0 (by have:=H0.len;omega) y ⟨b2,c2⟩ ⟨b3,c3⟩
     unfold pcE at hp
     have hl:=H0.len
     rw [decide_eq_false h8,x2,x3]
     simp only [cond_false,Option.bind_some]
     rw [hp]
     simp only [Option.bind_some]
     rw [ckT (decide_eq_true (by simp only [List.length_nil];omega)),ckT (decide_eq_true (by omega))]
     exact Qcv ys (k+1) z ps (d0 ++ [Piece.mk a b (wr (a3 - 300))]) d1 d2 d3 d4 d5 d6 d7 d8 d9 hI H1 H2 H3 H4 H5 H6 H7 H8 H9
   ·by_cases h8:(d1.length:Int)=8
    ·rw [decide_eq_true h8]
     exact Qcv ys (k+1) z ps d0 d1 d2 d3 d4 d5 d6 d7 d8 d9 H0 H1 H2 H3 H4 H5 H6 H7 H8 H9
    ·obtain ⟨a,b,hp,hI⟩:=pc_ok H1 (by have:=H1.len;omega) y ⟨b2,c2⟩ ⟨b3,c3⟩
     unfold pcE at hp
     have hl:=H1.len
     rw [decide_eq_false h8,x2,x3]
     simp only [cond_false,Option.bind_some]
     rw [hp]
     simp only [Option.bind_some]
     rw [ckT (decide_eq_true (by simp only [List.length_nil];omega)),ckT (decide_eq_true (by omega))]
     exact Qcv ys (k+1) z ps d0 (d1 ++ [Piece.mk a b (wr (a3 - 300))]) d2 d3 d4 d5 d6 d7 d8 d9 H0 hI H2 H3 H4 H5 H6 H7 H8 H9
   ·by_cases h8:(d2.length:Int)=8
    ·rw [decide_eq_true h8]
     exact Qcv ys (k+1) z ps d0 d1 d2 d3 d4 d5 d6 d7 d8 d9 H0 H1 H2 H3 H4 H5 H6 H7 H8 H9
    ·obtain ⟨a,b,hp,hI⟩:=pc_ok H2 (by have:=H2.len;omega) y ⟨b2,c2⟩ ⟨b3,c3⟩
     unfold pcE at hp
     have hl:=H2.len
     rw [decide_eq_false h8,x2,x3]
     simp only [cond_false,Option.bind_some]
     rw [hp]
     simp only [Option.bind_some]
     rw [ckT (decide_eq_true (by simp only [List.length_nil];omega)),ckT (decide_eq_true (by omega))]
     exact Qcv ys (k+1) z ps d0 d1 (d2 ++ [Piece.mk a b (wr (a3 - 300))]) d3 d4 d5 d6 d7 d8 d9 H0 H1 hI H3 H4 H5 H6 H7 H8 H9
   ·by_cases h8:(d5.length:Int)=8
    ·rw [decide_eq_true h8]
     exact Qcv ys (k+1) z ps d0 d1 d2 d3 d4 d5 d6 d7 d8 d9 H0 H1 H2 H3 H4 H5 H6 H7 H8 H9
    ·obtain ⟨a,b,hp,hI⟩:=pc_ok H5 (by have:=H5.len;omega) y ⟨b2,c2⟩ ⟨b3,c3⟩
     unfold pcE at hp
     have hl:=H5.len
     rw [decide_eq_false h8,x2,x3]
     simp only [cond_false,Option.bind_some]
     rw [hp]
     simp only [Option.bind_some]
     rw [ckT (decide_eq_true (by simp only [List.length_nil];omega)),ckT (decide_eq_true (by omega))]
     exact Qcv ys (k+1) z ps d0 d1 d2 d3 d4 (d5 ++ [Piece.mk a b (wr (a3 - 300))]) d6 d7 d8 d9 H0 H1 H2 H3 H4 hI H6 H7 H8 H9
   ·by_cases h8:(d6.length:Int)=8
    ·rw [decide_eq_true h8]
     exact Qcv ys (k+1) z ps d0 d1 d2 d3 d4 d5 d6 d7 d8 d9 H0 H1 H2 H3 H4 H5 H6 H7 H8 H9
    ·obtain ⟨a,b,hp,hI⟩:=pc_ok H6 (by have:=H6.len;omega) y ⟨b2,c2⟩ ⟨b3,c3⟩
     unfold pcE at hp
     have hl:=H6.len
     rw [decide_eq_false h8,x2,x3]
     simp only [cond_false,Option.bind_some]
     rw [hp]
     simp only [Option.bind_some]
     rw [ckT (decide_eq_true (by simp only [List.length_nil];omega)),ckT (decide_eq_true (by omega))]
     exact Qcv ys (k+1) z ps d0 d1 d2 d3 d4 d5 (d6 ++ [Piece.mk a b (wr (a3 - 300))]) d7 d8 d9 H0 H1 H2 H3 H4 H5 hI H7 H8 H9
   ·by_cases h8:(d7.length:Int)=8
    ·rw [decide_eq_true h8]
     exact Qcv ys (k+1) z ps d0 d1 d2 d3 d4 d5 d6 d7 d8 d9 H0 H1 H2 H3 H4 H5 H6 H7 H8 H9
    ·obtain ⟨a,b,hp,hI⟩:=pc_ok H7 (by have:=H7.len;omega) y ⟨b2,c2⟩ ⟨b3,c3⟩
     unfold pcE at hp
     have hl:=H7.len
     rw [decide_eq_false h8,x2,x3]
     simp only [cond_false,Option.bind_some]
     rw [hp]
     simp only [Option.bind_some]
     rw [ckT (decide_eq_true (by simp only [List.length_nil];omega)),ckT (decide_eq_true (by omega))]
     exact Qcv ys (k+1) z ps d0 d1 d2 d3 d4 d5 d6 (d7 ++ [Piece.mk a b (wr (a3 - 300))]) d8 d9 H0 H1 H2 H3 H4 H5 H6 hI H8 H9
  ·rw [decide_eq_false hk]
   exact ⟨d0,d1,d2,d3,d4,d5,d6,d7,d8,d9,rfl,H0,H1,H2,H3,H4,H5,H6,H7,H8,H9⟩
theorem version_ok (x:T_Raw) (n:Int) (hn: -1≤n∧n≤90000):∃ v,Qca x n=some v∧v.ok=true∧n < v.fr∧v.fr≤n+300:=by
 obtain ⟨a,x0,b0,c0⟩:=Qdb x.From (m:=300) (by omega)
 obtain ⟨ps,h1,h2,h3⟩:=puts_l2 x.Puts 0 (wr (wr (n+1)+a)) [] rfl (by omega) (fun p hp=>by cases hp)
 obtain ⟨e0,e1,e2,e3,e4,e5,e6,e7,e8,e9,h4,g0,g1,g2,g3,g4,g5,g6,g7,g8,g9⟩:=Qcv x.Pieces 0 (wr (wr (n+1)+a)) ps [] [] [] [] [] [] [] [] [] [] .nil .nil .nil .nil .nil .nil .nil .nil .nil .nil
 have hw:wr (wr (n+1)+a)=n+1+a:=by rw [wr_id (n:=n+1) (by omega),wr_id (by omega)]
 refine ⟨Version.mk (wr (wr (n+1)+a)) ps (arr [e0,e1,e2,e3,e4,e5,e6,e7,e8,e9] e0),?_,?_,?_,?_⟩
 ·unfold Qca
  rw [x0]
  simp only [Option.bind_some,h1,h4]
 ·unfold Version.ok
  rw [hw,Qbr (by dsimp only;omega),decide_eq_true (by show ps.length≤20;omega),List.all_eq_true.2 h3,Bool.true_and,Bool.true_and,Bool.true_and]
  refine allR_mk fun k hk=>?_
  match k,hk with
  | 0,_=>exact g0.line
  | 1,_=>exact g1.line
  | 2,_=>exact g2.line
  | 3,_=>exact g3.line
  | 4,_=>exact g4.line
  | 5,_=>exact g5.line
  | 6,_=>exact g6.line
  | 7,_=>exact g7.line
  | 8,_=>exact g8.line
  | 9,_=>exact g9.line
  | k+10,hk=>omega
 ·show n < wr (wr (n+1)+a);omega
 ·show wr (wr (n+1)+a)≤n+300;omega
end Go.Proofs.YtjflgemfeofciaaGreatDoor
namespace Go.Proofs.YtjflgemfeofciaaGreatDoor
open Go Go.Ev
set_option linter.unusedVariables false
set_option linter.unusedSimpArgs false
theorem mk_ok {v:Version} (h:v.ok=true) {n:Int} (hn:0≤n∧n≤100000):(Version.mk n v.puts (arr [(v.ln 0),(v.ln 1),(v.ln 2),(v.ln 3),(v.ln 4),(v.ln 5),(v.ln 6),(v.ln 7),(v.ln 8),(v.ln 9)] (v.ln 0))).ok=true:=by
 have hl:=ver_lines h
 have hp:=ver_puts h
 have h20:v.puts.length≤20:=by
  unfold Version.ok at h
  simp only [Bool.and_eq_true,decide_eq_true_eq] at h
  exact h.2.1
 unfold Version.ok
 rw [Qbr (by dsimp only;omega),decide_eq_true (by dsimp only;exact h20),Bool.true_and,Bool.true_and]
 show (v.puts.all Put.ok && _)=true
 rw [hp,Bool.true_and]
 refine allR_mk fun k hk=>?_
 match k,hk with
 | 0,_=>exact hl 0 (by decide)
 | 1,_=>exact hl 1 (by decide)
 | 2,_=>exact hl 2 (by decide)
 | 3,_=>exact hl 3 (by decide)
 | 4,_=>exact hl 4 (by decide)
 | 5,_=>exact hl 5 (by decide)
 | 6,_=>exact hl 6 (by decide)
 | 7,_=>exact hl 7 (by decide)
 | 8,_=>exact hl 8 (by decide)
 | 9,_=>exact hl 9 (by decide)
 | k+10,hk=>omega
structure CInv (d:List Version):Prop where
 len:1≤d.length∧d.length≤5
 ok:∀ (j:Nat) (v:Version),d[j]? =some v→v.ok=true∧v.fr≤300 * (j+1)∧(j=0∨∀ q,d[j - 1]? =some q→q.fr < v.fr)
theorem CInv.one {v:Version} (h:v.ok=true) (hf:v.fr≤300):CInv [v]:=⟨⟨Nat.le_refl 1,by show 1≤5;decide⟩,fun j w hw=>by
 match j,hw with
 | 0,hw=>
  obtain rfl:=Option.some.inj hw
  exact ⟨h,by omega,.inl rfl⟩
 | j+1,hw=>simp at hw⟩
theorem CInv.app {d:List Version} (h:CInv d) (hl:d.length < 5) {v q:Version} (hq:d[d.length - 1]? =some q) (hv:v.ok=true) (hf:q.fr < v.fr∧v.fr≤q.fr+300):CInv (d ++ [v]):=by
 have hlen:=h.len
 refine ⟨by simp only [List.length_append,List.length_singleton];omega,fun j w hw=>?_⟩
 by_cases hj:j < d.length
 ·rw [List.getElem?_append_left hj] at hw
  obtain ⟨a1,a2,a3⟩:=h.ok j w hw
  refine ⟨a1,a2,?_⟩
  rcases a3 with a3 | a3
  ·exact .inl a3
  ·refine .inr fun u hu=>a3 u ?_
   rwa [List.getElem?_append_left (by omega)] at hu
 ·rw [List.getElem?_append_right (by omega)] at hw
  have hj2:j=d.length:=by
   have:=(List.getElem?_eq_some_iff.1 hw).1
   simp only [List.length_singleton] at this
   omega
  subst hj2
  rw [Nat.sub_self] at hw
  obtain rfl:=Option.some.inj hw
  have hb:=(h.ok _ _ hq).2.1
  refine ⟨hv,by omega,.inr fun u hu=>?_⟩
  rw [List.getElem?_append_left (by omega),hq] at hu
  obtain rfl:=Option.some.inj hu
  exact hf.1
theorem code_l1:∀ (ys:List T_Raw) (k:Nat) (s:List UInt8) (d:List Version),d.length=k→CInv d→∃ e,Qcb ys k s d=some (s,e)∧CInv e∧e[0]? =d[0]?
 | [],k,s,d,_,h=>⟨d,rfl,h,rfl⟩
 | y :: ys,k,s,d,hk,h=>by
  have hlen:=h.len
  rw [Qcb]
  by_cases h5:(k:Int) < 5
  ·have hd:d.length - 1 < d.length:=by omega
   have hq:=List.getElem?_eq_getElem hd
   have hat:atI d ((k:Int) - 1)=some d[d.length - 1]:=by rw [show ((k:Int) - 1)=((d.length - 1:Nat):Int) from by omega,atI_nat,hq]
   obtain ⟨b1,b2,_⟩:=h.ok _ _ hq
   have b0:=ver_fr b1
   obtain ⟨v,e1,e2,e3,e4⟩:=version_ok y d[d.length - 1].fr (by omega)
   rw [decide_eq_true h5,hat]
   simp only [cond_true,Option.bind_some,e1]
   rw [ckT (decide_eq_true (by omega))]
   obtain ⟨e,x1,x2,x3⟩:=code_l1 ys (k+1) s (d ++ [v]) (by simp only [List.length_append,List.length_singleton];omega) (h.app (by omega) hq e2 ⟨e3,e4⟩)
   exact ⟨e,x1,x2,by rw [x3,List.getElem?_append_left (by omega)]⟩
  ·rw [decide_eq_false h5]
   exact ⟨d,rfl,h,rfl⟩
theorem code_l2:∀ (ys:List T_Raw) (k:Nat) (s:List UInt8) (d:List Version),d.length=k→CInv d→∃ e,Qcd ys k s d=some (s,e)∧CInv e∧e[0]? =d[0]?
 | [],k,s,d,_,h=>⟨d,rfl,h,rfl⟩
 | y :: ys,k,s,d,hk,h=>by
  have hlen:=h.len
  rw [Qcd]
  by_cases h5:(k:Int) < 5
  ·have hd:d.length - 1 < d.length:=by omega
   have hq:=List.getElem?_eq_getElem hd
   have hat:atI d ((k:Int) - 1)=some d[d.length - 1]:=by rw [show ((k:Int) - 1)=((d.length - 1:Nat):Int) from by omega,atI_nat,hq]
   obtain ⟨b1,b2,_⟩:=h.ok _ _ hq
   have b0:=ver_fr b1
   obtain ⟨v,e1,e2,e3,e4⟩:=version_ok y d[d.length - 1].fr (by omega)
   rw [decide_eq_true h5,hat]
   simp only [cond_true,Option.bind_some,e1]
   rw [ckT (decide_eq_true (by omega))]
   obtain ⟨e,x1,x2,x3⟩:=code_l2 ys (k+1) s (d ++ [v]) (by simp only [List.length_append,List.length_singleton];omega) (h.app (by omega) hq e2 ⟨e3,e4⟩)
   exact ⟨e,x1,x2,by rw [x3,List.getElem?_append_left (by omega)]⟩
  ·rw [decide_eq_false h5]
   exact ⟨d,rfl,h,rfl⟩
theorem code_ok (l:List T_Raw):∃ c,Qfo l=some c∧c.err=0∧CInv c.vs∧∃ y,c.vs[0]? =some y∧0≤y.fr∧y.fr≤2:=by
 have hred:nameB [114,101,100]=true:=by decide
 have fin:∀ (e:List Version),CInv e→(Code.mk [114,101,100] e).err=0:=fun e h=>by
  have hlen:=h.len
  unfold Code.err
  rw [if_pos]
  unfold Code.ok
  rw [hred,Qbr (by dsimp only;omega),Bool.true_and,Bool.true_and]
  exact allR_mk fun k hk=>(vgood_iff (List.getElem?_eq_getElem hk)).2 ⟨(h.ok k _ (List.getElem?_eq_getElem hk)).1,(h.ok k _ (List.getElem?_eq_getElem hk)).2.2⟩
 obtain ⟨v0,a1,a2,a3,a4⟩:=version_ok (T_Raw.mk 0 [] []) (-1) (by omega)
 unfold Qfo
 rw [a1,Option.bind_some]
 cases l with
 | nil=>
  obtain ⟨e,x1,x2,x3⟩:=code_l2 [] 1 [114,101,100] [Version.mk 0 v0.puts (arr [(v0.ln 0),(v0.ln 1),(v0.ln 2),(v0.ln 3),(v0.ln 4),(v0.ln 5),(v0.ln 6),(v0.ln 7),(v0.ln 8),(v0.ln 9)] (v0.ln 0))] rfl (.one (mk_ok a2 (by omega)) (by dsimp only;omega))
  refine ⟨_,?_,fin e x2,x2,_,x3,Int.le_refl _,by show (0:Int)≤2;decide⟩
  rw [show decide ((0:Int) < (([]:List T_Raw).length:Int))=false from rfl,cond_false]
  show Option.bind (Qcd [] 1 _ _) _=_
  rw [x1];rfl
 | cons y ys=>
  obtain ⟨v1,b1,b2,b3,b4⟩:=version_ok y (-1) (by omega)
  obtain ⟨r,c1,c2,c3⟩:=Qdb y.From (m:=3) (by omega)
  obtain ⟨e,x1,x2,x3⟩:=code_l1 ys 1 [114,101,100] [Version.mk r v1.puts (arr [(v1.ln 0),(v1.ln 1),(v1.ln 2),(v1.ln 3),(v1.ln 4),(v1.ln 5),(v1.ln 6),(v1.ln 7),(v1.ln 8),(v1.ln 9)] (v1.ln 0))] rfl (.one (mk_ok b2 (by omega)) (by dsimp only;omega))
  have hg:(y :: ys)[0]? =some y:=rfl
  rw [decide_eq_true (by simp only [List.length_cons];omega),hg]
  simp only [cond_true,Option.bind_some,b1,c1]
  refine ⟨_,?_,fin e x2,x2,_,x3,c2,by dsimp only;omega⟩
  show Option.bind (Qcb ys 1 _ _) _=_
  rw [x1];rfl
structure WldOk (c:Code) (q:T_Ask):Prop where
 err:c.err=0
 vs:CInv c.vs
 f01:Qag q.Formula 0 1=true
 rooms:Qck q.Rooms=0
 day:0≤q.Day∧q.Day≤1000
 first:∃ y,c.vs[0]? =some y∧y.fr≤q.Day
theorem world_ok (l:List T_Raw) (x:T_Some):∃ c q,Qer l x=some (c,q)∧WldOk c q:=by
 obtain ⟨c,h1,h2,h3,y,h4,h5,h6⟩:=code_ok l
 obtain ⟨a,e1,b1,c1⟩:=Qdb x.Day (m:=900) (by omega)
 obtain ⟨f,e2,b2,c2⟩:=Qdb x.Formula (m:=2) (by omega)
 obtain ⟨r,e3,e4⟩:=rooms_ok x.Rooms
 refine ⟨c,T_Ask.mk (wr (y.fr+a)) f r,?_,h2,h3,Qbr (by dsimp only;omega),e4,?_,y,h4,?_⟩
 ·unfold Qer
  rw [h1]
  simp only [Option.bind_some,h4,e1,e2,e3]
 ·dsimp only;rw [wr_id (by omega)];omega
 ·dsimp only;rw [wr_id (by omega)];omega
end Go.Proofs.YtjflgemfeofciaaGreatDoor
