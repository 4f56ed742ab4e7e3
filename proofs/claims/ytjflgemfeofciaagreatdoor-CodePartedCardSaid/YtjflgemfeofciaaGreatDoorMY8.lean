import Derived.Test.YtjflgemfeofciaaGreatDoorMU3
import Derived.Test.YtjflgemfeofciaaGreatDoorWm4
import Derived.Test.YtjflgemfeofciaaGreatDoorMY2
import Derived.Test.YtjflgemfeofciaaGreatDoorMY6
namespace Go.Proofs.YtjflgemfeofciaaGreatDoor
open Go Go.Ev
set_option linter.unusedVariables false
set_option linter.unusedSimpArgs false
set_option maxRecDepth 10000
end Go.Proofs.YtjflgemfeofciaaGreatDoor
namespace Go.Proofs.YtjflgemfeofciaaGreatDoor
open Go Go.Ev
set_option linter.unusedVariables false
set_option linter.unusedSimpArgs false
theorem exG_le (f:Int→Int) (a:Int × Int) (n:Int):f (exG f a n).1≤f a.1∧f (exG f a n).1≤f n∧f a.2≤f (exG f a n).2∧f n≤f (exG f a n).2:=by
 unfold exG
 dsimp only
 split <;> split <;> omega
theorem exS_le (f:Int→Int) (a c:Int × Int):(f (exS f a c).1≤f a.1∧f a.2≤f (exS f a c).2)∧f (exS f a c).1≤f c.1∧f (exS f a c).1≤f c.2∧f c.1≤f (exS f a c).2∧f c.2≤f (exS f a c).2:=by
 unfold exS
 have h1:=exG_le f a c.1
 have h2:=exG_le f (exG f a c.1) c.2
 omega
theorem exS_fold (f:Int→Int):∀ (L:List (Int × Int)) (a:Int × Int),(f (L.foldl (exS f) a).1≤f a.1∧f a.2≤f (L.foldl (exS f) a).2)∧∀ c∈L,f (L.foldl (exS f) a).1≤f c.1∧f (L.foldl (exS f) a).1≤f c.2∧f c.1≤f (L.foldl (exS f) a).2∧f c.2≤f (L.foldl (exS f) a).2
 | [],a=>⟨⟨Int.le_refl _,Int.le_refl _⟩,fun c h=>by cases h⟩
 | x :: L,a=>by
  rw [List.foldl_cons]
  obtain ⟨⟨h1,h2⟩,h3⟩:=exS_fold f L (exS f a x)
  have h4:=exS_le f a x
  refine ⟨by omega,fun c hc=>?_⟩
  rcases List.mem_cons.1 hc with rfl | hc
  ·omega
  ·exact h3 c hc
theorem clL_cover {lo hi n:Int} (h:lo≤n∧n≤hi):∀ (r:List Piece) (p:Piece),riseP (p :: r)→p.fr≤n→∃ c∈clL lo hi (p :: r),(c.1≤n∧n≤c.2)∧p.fr≤c.1∧lo≤c.1∧c.2≤hi∧∃ q∈p :: r,∀ m,c.1≤m→m≤c.2→rvF m r (p.val m)=q.val m
 | [],p,_,hp=>by
  rw [clL,if_pos (by omega)]
  exact ⟨_,List.mem_singleton.2 rfl,⟨by dsimp only;omega,h.2⟩,by dsimp only;omega,by dsimp only;omega,Int.le_refl _,p,List.mem_singleton.2 rfl,fun m _ _=>rfl⟩
 | q :: r,p,hr,hp=>by
  rw [clL]
  by_cases hq:q.fr≤n
  ·obtain ⟨c,h1,h2,h3,h4,h5,u,h6,h7⟩:=clL_cover h r q hr.2 hq
   have:=hr.1
   refine ⟨c,List.mem_append.2 (.inr h1),h2,by omega,h4,h5,u,List.mem_cons_of_mem _ h6,fun m m1 m2=>?_⟩
   rw [rvF,if_pos (by omega)]
   exact h7 m m1 m2
  ·rw [if_pos (by omega)]
   refine ⟨_,List.mem_append.2 (.inl (List.mem_singleton.2 rfl)),⟨by dsimp only;omega,by dsimp only;omega⟩,by dsimp only;omega,by dsimp only;omega,by dsimp only;omega,p,List.mem_cons_self,fun m m1 m2=>?_⟩
   dsimp only at m1 m2
   rw [rvF,if_neg (by omega)]
theorem val_eq {q:Piece} (hb:Qag q.base (-1000000000000) 1000000000000=true) (hr:Qag q.rate (-1000000) 1000000=true) {m:Int} (h:0≤m∧m≤20000000000):q.val m=q.base+q.rate * m:=by
 unfold Qag at hb hr
 simp only [Bool.and_eq_true,decide_eq_true_eq] at hb hr
 have h1:=Int.mul_le_mul_of_nonneg_right hr.1 h.1
 have h2:=Int.mul_le_mul_of_nonneg_right hr.2 h.1
 have e:∀ x:Int, -9223372036854775808≤x∧x≤9223372036854775807→w64 x=x:=fun x hx=>wr_id hx
 unfold Piece.val
 rw [e (q.rate * m) (by omega),e _ (by omega)]
theorem val_mid {q:Piece} (hb:Qag q.base (-1000000000000) 1000000000000=true) (hr:Qag q.rate (-1000000) 1000000=true) {a n b:Int} (h0:0≤a) (h:a≤n∧n≤b) (h2:b≤20000000000):(q.val a≤q.val n∧q.val n≤q.val b)∨(q.val b≤q.val n∧q.val n≤q.val a):=by
 rw [val_eq hb hr (m:=a) (by omega),val_eq hb hr (m:=n) (by omega),val_eq hb hr (m:=b) (by omega)]
 by_cases hs:0≤q.rate
 ·have h3:=Int.mul_le_mul_of_nonneg_left h.1 hs
  have h4:=Int.mul_le_mul_of_nonneg_left h.2 hs
  exact .inl (by omega)
 ·have h3:=Int.mul_le_mul_of_nonneg_left h.1 (c:= -q.rate) (by omega)
  have h4:=Int.mul_le_mul_of_nonneg_left h.2 (c:= -q.rate) (by omega)
  simp only [Int.neg_mul] at h3 h4
  exact .inr (by omega)
theorem piece_in {l:List Piece} (h:lineB l=true) {q:Piece} (hq:q∈l):Qag q.base (-1000000000000) 1000000000000=true∧Qag q.rate (-1000000) 1000000=true:=by
 obtain ⟨j,hj,rfl⟩:=List.mem_iff_getElem.1 hq
 unfold lineB at h
 rw [Bool.and_eq_true] at h
 have:=Qcm h.2 hj
 unfold pgood at this
 rw [List.getElem?_eq_getElem hj] at this
 simp only [Bool.and_eq_true] at this
 exact ⟨this.2.1,this.2.2.1⟩
theorem ext_mid {l:List Piece} (h:lineB l=true) {lo hi n:Int} (h0:0≤lo) (hn:lo≤n∧n≤hi) (h2:hi≤20000000000):closV l (extS (closV l) l lo hi).1≤closV l n∧closV l n≤closV l (extS (closV l) l lo hi).2:=by
 cases l with
 | nil=>exact ⟨Int.le_refl _,Int.le_refl _⟩
 | cons p r=>
  have hp0:p.fr=0:=by
   have h':=h
   unfold lineB at h'
   rw [Bool.and_eq_true] at h'
   have:=Qcm h'.2 (k:=0) (by simp)
   unfold pgood at this
   simp only [List.getElem?_cons_zero,Bool.and_eq_true,if_true,decide_eq_true_eq] at this
   exact this.2.2.2
  obtain ⟨c,h1,h3,h4,h5,h6,q,h7,h8⟩:=clL_cover hn r p (line_rise h) (by omega)
  obtain ⟨b1,b2⟩:=piece_in h h7
  have e:∀ m,c.1≤m→m≤c.2→closV (p :: r) m=q.val m:=fun m m1 m2=>by
   rw [clos_ref h (by omega), ←h8 m m1 m2]
   unfold refV
   rw [rvF,if_pos (by omega)]
  have hf:=(exS_fold (closV (p :: r)) (cellL (p :: r) lo hi) (lo,lo)).2 c (by rw [cellL_eq];exact h1)
  have hm:=val_mid b1 b2 (a:=c.1) (n:=n) (b:=c.2) (by omega) h3 (by omega)
  rw [e c.1 (Int.le_refl _) (by omega),e c.2 (by omega) (Int.le_refl _)] at hf
  rw [e n h3.1 h3.2]
  unfold extS
  omega
theorem closV_bd {l:List Piece} (h:lineB l=true) {m:Int} (hm:0≤m∧m≤20000000000): -20001000000000000≤closV l m∧closV l m≤20001000000000000:=by
 unfold closV
 split
 ·rename_i q hq
  obtain ⟨b1,b2⟩:=piece_in h (List.mem_of_getElem? hq)
  rw [val_eq b1 b2 hm]
  unfold Qag at b1 b2
  simp only [Bool.and_eq_true,decide_eq_true_eq] at b1 b2
  have h1:=Int.mul_le_mul_of_nonneg_right b2.1 hm.1
  have h2:=Int.mul_le_mul_of_nonneg_right b2.2 hm.1
  omega
 ·omega
theorem Qfu {v:Version} {k:Nat} {x0 x1 x2 x3 x4:Int} (h0: -20001000000000000≤closV (v.ln (5 * k)) x0∧closV (v.ln (5 * k)) x0≤20001000000000000) (h1: -20001000000000000≤closV (v.ln (5 * k+1)) x1∧closV (v.ln (5 * k+1)) x1≤20001000000000000) (h2: -20001000000000000≤closV (v.ln (5 * k+2)) x2∧closV (v.ln (5 * k+2)) x2≤20001000000000000) (h3: -20001000000000000≤closV (v.ln (5 * k+3)) x3∧closV (v.ln (5 * k+3)) x3≤20001000000000000) (h4: -20001000000000000≤closV (v.ln (5 * k+4)) x4∧closV (v.ln (5 * k+4)) x4≤20001000000000000):
  tonS closV v k x0 x1 x2 x3 x4=closV (v.ln (5 * k)) x0+closV (v.ln (5 * k+1)) x1+closV (v.ln (5 * k+2)) x2+closV (v.ln (5 * k+3)) x3+closV (v.ln (5 * k+4)) x4:=by
 have e:∀ x:Int, -9223372036854775808≤x∧x≤9223372036854775807→w64 x=x:=fun x hx=>wr_id hx
 unfold tonS wadd
 rw [e (0+_) (by omega),e (0+_+_) (by omega),e (0+_+_+_) (by omega),e (0+_+_+_+_) (by omega),e _ (by omega)]
 omega
theorem downI_mono {a b:Int} (h:a≤b) (ha: -1000000000000000000≤a) (hb:b≤1000000000000000000):downI a≤downI b:=by
 have e:∀ x:Int, -9223372036854775808≤x∧x≤9223372036854775807→w64 x=x:=fun x hx=>wr_id hx
 have key:∀ a:Int, -1000000000000000000≤a→a≤1000000000000000000→downI a=a / 1000:=by
  intro a h1 h2
  have d1:=Int.mul_tdiv_add_tmod a 1000
  have d2:=Int.tmod_lt_of_pos a (b:=1000) (by decide)
  have d3:=Int.lt_tmod_of_pos a (b:=1000) (by decide)
  unfold downI
  split
  ·rw [e (a.tdiv 1000) (by omega),e _ (by omega)];omega
  ·rw [e (a.tdiv 1000) (by omega)];omega
 rw [key a ha (by omega),key b (by omega) hb]
 omega
def sumI (h:Room→Int):List Room→Int
 | []=>0
 | r :: l=>h r+sumI h l
def inG (v:Version) (f:Room→Int) (i:Nat) (r:Room):Int:=if (grp v r).1=(i:Int) then f r else 0
theorem lit_sum {v:Version} {f:Room→Int} {i:Nat} (M:Int) (hM:M=1000000000):∀ (l:List Room) (a n:Int),(∀ r∈l,0≤f r∧f r≤M)→0≤a→a≤n * M→0≤n→n+l.length≤20→litF v f i l a=a+sumI (inG v f i) l
 | [],a,n,_,_,_,_,_=>by show a=a+0;omega
 | r :: l,a,n,h,h1,h2,h0,h4=>by
  have hr:=h r List.mem_cons_self
  have hl:=fun x hx=>h x (List.mem_cons_of_mem _ hx)
  rw [List.length_cons] at h4
  rw [litF_c,sumI]
  by_cases e:(grp v r).1=(i:Int)
  ·have e1:wadd a (f r)=a+f r:=wr_id (by subst hM;omega)
   rw [if_pos e,e1,lit_sum M hM l _ (n+1) hl (by omega) (by rw [Int.add_mul,Int.one_mul];omega) (by omega) (by omega),show inG v f i r=f r from if_pos e]
   omega
  ·rw [if_neg e,lit_sum M hM l a n hl h1 h2 h0 (by omega),show inG v f i r=0 from if_neg e]
   omega
theorem lit_eq {v:Version} {i:Nat} {l:List Room} (h:Qck l=0):litI v Room.lo i l=sumI (inG v Room.lo i) l∧litI v Room.hi i l=sumI (inG v Room.hi i) l:=by
 have h1:=rooms_in h
 have h2:=rooms20 h
 have a:=lit_sum (v:=v) (f:=Room.lo) (i:=i) _ rfl l 0 0 (fun r hr=>by have:=h1 r hr;omega) (by omega) (by omega) (by omega) (by omega)
 have b:=lit_sum (v:=v) (f:=Room.hi) (i:=i) _ rfl l 0 0 (fun r hr=>by have:=h1 r hr;omega) (by omega) (by omega) (by omega) (by omega)
 rw [Int.zero_add] at a b
 exact ⟨a,b⟩
theorem line_le {l:List Piece} (h:lineB l=true) {lo hi lo2 hi2:Int} (h0:0≤lo) (h1:lo≤lo2) (h2:lo2≤hi2) (h3:hi2≤hi) (h4:hi≤20000000000):closV l (extS (closV l) l lo hi).1≤closV l (extS (closV l) l lo2 hi2).1∧closV l (extS (closV l) l lo2 hi2).2≤closV l (extS (closV l) l lo hi).2:=by
 have a1:lo2≤(extS (closV l) l lo2 hi2).1∧(extS (closV l) l lo2 hi2).1≤hi2:=ext_in h (by omega) h2 false
 have a2:lo2≤(extS (closV l) l lo2 hi2).2∧(extS (closV l) l lo2 hi2).2≤hi2:=ext_in h (by omega) h2 true
 exact ⟨(ext_mid h (lo:=lo) (hi:=hi) h0 (by omega) h4).1,(ext_mid h (lo:=lo) (hi:=hi) h0 (by omega) h4).2⟩
theorem line_bd {l:List Piece} (h:lineB l=true) {lo hi:Int} (h0:0≤lo) (h2:lo≤hi) (h4:hi≤20000000000):(-20001000000000000≤closV l (extS (closV l) l lo hi).1∧closV l (extS (closV l) l lo hi).1≤20001000000000000)∧ -20001000000000000≤closV l (extS (closV l) l lo hi).2∧closV l (extS (closV l) l lo hi).2≤20001000000000000:=by
 have a1:lo≤(extS (closV l) l lo hi).1∧(extS (closV l) l lo hi).1≤hi:=ext_in h (by omega) h2 false
 have a2:lo≤(extS (closV l) l lo hi).2∧(extS (closV l) l lo hi).2≤hi:=ext_in h (by omega) h2 true
 exact ⟨closV_bd h (by omega),closV_bd h (by omega)⟩
theorem judT_le {v:Version} {f:Int} (hf:f=0∨f=1) (hl:∀ k,k < 10→lineB (v.ln k)=true) {lo hi lo2 hi2:Nat→Int} (h0:∀ i,0≤lo i) (h1:∀ i,lo i≤lo2 i) (h2:∀ i,lo2 i≤hi2 i) (h3:∀ i,hi2 i≤hi i) (h4:∀ i,hi i≤20000000000):judT Prod.fst v f lo hi≤judT Prod.fst v f lo2 hi2∧judT Prod.snd v f lo2 hi2≤judT Prod.snd v f lo hi:=by
 have hk:f.toNat < 2:=by rcases hf with rfl | rfl <;> decide
 have le:=fun (j i:Nat) (hj:j < 5)=>line_le (hl (5 * f.toNat+j) (by omega)) (h0 i) (h1 i) (h2 i) (h3 i) (h4 i)
 have bd:=fun (j i:Nat) (hj:j < 5)=>line_bd (hl (5 * f.toNat+j) (by omega)) (h0 i) (by have:=h1 i;have:=h2 i;have:=h3 i;omega) (h4 i)
 have bd2:=fun (j i:Nat) (hj:j < 5)=>line_bd (hl (5 * f.toNat+j) (by omega)) (lo:=lo2 i) (hi:=hi2 i) (by have:=h1 i;have:=h0 i;omega) (h2 i) (by have:=h3 i;have:=h4 i;omega)
 have l0:=le 0 1 (by decide)
 have l1:=le 1 2 (by decide)
 have l2:=le 2 3 (by decide)
 have l3:=le 3 4 (by decide)
 have l4:=le 4 5 (by decide)
 have b0:=bd 0 1 (by decide)
 have b1:=bd 1 2 (by decide)
 have b2:=bd 2 3 (by decide)
 have b3:=bd 3 4 (by decide)
 have b4:=bd 4 5 (by decide)
 have d0:=bd2 0 1 (by decide)
 have d1:=bd2 1 2 (by decide)
 have d2:=bd2 2 3 (by decide)
 have d3:=bd2 3 4 (by decide)
 have d4:=bd2 4 5 (by decide)
 clear le bd bd2 h0 h1 h2 h3 h4 hl
 simp only [Nat.add_zero] at l0 b0 d0
 unfold judT judL
 simp only [Nat.sub_self,Nat.add_zero,Nat.reduceSub]
 rw [Qfu b0.1 b1.1 b2.1 b3.1 b4.1,Qfu d0.1 d1.1 d2.1 d3.1 d4.1,Qfu b0.2 b1.2 b2.2 b3.2 b4.2,Qfu d0.2 d1.2 d2.2 d3.2 d4.2]
 exact ⟨downI_mono (by omega) (by omega) (by omega),downI_mono (by omega) (by omega) (by omega)⟩
theorem judC_at {c:Code} {day f:Int} {l:List Room} (h:endE c day f l=0):judC c day f l=(judT Prod.fst (verF c day) f (fun i=>litI (verF c day) Room.lo i l) (fun i=>litI (verF c day) Room.hi i l),judT Prod.snd (verF c day) f (fun i=>litI (verF c day) Room.lo i l) (fun i=>litI (verF c day) Room.hi i l)):=by
 unfold judC endD
 rw [if_pos h,if_pos h]
end Go.Proofs.YtjflgemfeofciaaGreatDoor
namespace Go.Proofs.YtjflgemfeofciaaGreatDoor
open Go Go.Ev
set_option linter.unusedVariables false
set_option linter.unusedSimpArgs false
theorem mod_big (n:Int) {m:Int} (h:0 < m∧m≤1000000000000):∃ r,Qak n m=some r∧0≤r∧r < m:=by
 have e:(!decide (m=0))=true:=by rw [decide_eq_false (by omega)];rfl
 have a1:=Int.tmod_lt_of_pos n h.1
 have a2:=Int.lt_tmod_of_pos n h.1
 refine ⟨Int.tmod (wr (Int.tmod n m+m)) m,?_,?_,Int.tmod_lt_of_pos _ h.1⟩
 ·unfold Qak;rw [ckT e,ckT e]
 ·rw [wr_id (by omega)]
  exact Int.tmod_nonneg _ (by omega)
end Go.Proofs.YtjflgemfeofciaaGreatDoor
