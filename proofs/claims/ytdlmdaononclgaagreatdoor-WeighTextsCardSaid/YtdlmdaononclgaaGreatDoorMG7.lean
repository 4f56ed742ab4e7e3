import Derived.Test.YtdlmdaononclgaaGreatDoorMG6
import Derived.IntWalk
namespace Go.Ev
open Go
set_option linter.unusedVariables false
set_option linter.unusedSimpArgs false
theorem En_lt {ops:List Oper} {j i:Nat} {o:Oper} (ho:ops[j]? =some o) (he:effB o.op=true):En ops j < En ops i↔j < i:=by
 have h1:=En_succ ops j ho
 rw [if_pos he] at h1
 constructor
 ·intro h
  rcases Nat.lt_or_ge j i with h2 | h2
  ·exact h2
  ·have:=En_mono ops i j h2;omega
 ·intro h
  have:=En_mono ops (j+1) i h
  omega
theorem restA_mem {anc:Nat} {p:Nat × Nat × Blk}:∀ {ps:List (Nat × Nat × Blk)},p∈restA anc ps→p∈ps∧bit anc p.1=false
 | [],h=>by cases h
 | q :: ps,h=>by
   have hs:restA anc (q :: ps)=Bool.rec (q :: restA anc ps) (restA anc ps) (bit anc q.1):=rfl
   rw [hs] at h
   cases hb:bit anc q.1 with
   | true=>
     rw [hb] at h
     have:=restA_mem (show p∈restA anc ps from h)
     exact ⟨List.mem_cons_of_mem _ this.1,this.2⟩
   | false=>
     rw [hb] at h
     rcases List.mem_cons.1 (show p∈q :: restA anc ps from h) with rfl | h2
     ·exact ⟨List.mem_cons_self,hb⟩
     ·have:=restA_mem h2
      exact ⟨List.mem_cons_of_mem _ this.1,this.2⟩
theorem restA_sub {anc:Nat}:∀ ps:List (Nat × Nat × Blk),(restA anc ps).Sublist ps
 | []=>List.Sublist.refl _
 | q :: ps=>by
   have hs:restA anc (q :: ps)=Bool.rec (q :: restA anc ps) (restA anc ps) (bit anc q.1):=rfl
   rw [hs]
   cases hb:bit anc q.1 with
   | true=>exact (restA_sub ps).cons _
   | false=>exact (restA_sub ps).cons_cons _
section
variable (P:Program) (n0:Nat) (ops:List Oper) (bf:List Nat) (T:Nat→TT V)
def FL (i n:Nat) (y:Blk):Prop:=
 ∃ o,ops[i]? =some o∧flB o.op=true∧n=n0+i∧wantV ops (tget (T i)) o=some true∧∃ v hf,opV P ⟨.lf,n0+i,0⟩ (ev0 (T i)) o.op=some (v,hf)∧hf.get (n0+i)=some y
def Mg (c i:Nat):Prop:=∃ j o,ops[j]? =some o∧effB o.op=true∧wantV ops (tget (T j)) o=some true∧En ops j < c∧anB bf j i=true
end
structure Lg (P:Program) (go:Task→Option Out) (n0 N:Nat) (ops:List Oper) (bf:List Nat) (l:List Row) (T:Nat→TT V) (M:Nat→Ms):Prop where
 od:Od ops bf l
 st:∀ i row,l[i]? =some row→Qdn P go n0 N ops row (T i) (M i)=some (T (i+1),M (i+1))
 m0:(M 0).hs.length=1∧(M 0).ls=[]∧(M 0).ps=[]
 z:∃ g m,(M 0).hs=[(g,m)]∧g.n=n0+flN ops∧∀ b y,g.get b=some y→b < g.n
section
variable {P:Program} {go:Task→Option Out} {n0 N:Nat} {ops:List Oper} {bf:List Nat} {l:List Row} {T:Nat→TT V} {M:Nat→Ms} (L:Lg P go n0 N ops bf l T M)
include L
theorem Lg.find {i:Nat} (hi:i < ops.length):∃ o row,ops[i]? =some o∧l[i]? =some row∧row.o=o∧row.i=i∧(∀ j,bit row.anc j=anB bf i j)∧row.eff=effB o.op∧row.rd=rdB o.op∧row.fl=(if flB o.op=true then some i else none):=by
 have ho:ops[i]? =some ops[i]:=List.getElem?_eq_getElem hi
 obtain ⟨row,h1,h2,h3,h4,h5,h6,h7,_⟩:=L.od.row i _ ho
 exact ⟨_,row,ho,h1,h2,h3,h4,h5,h6,h7⟩
theorem Lg.hsLen:∀ i,i≤ops.length→(M i).hs.length=En ops i+1
 | 0,_=>by rw [En_zero];exact L.m0.1
 | i+1,hi=>by
   have ih:=Lg.hsLen i (by omega)
   obtain ⟨o,row,ho,hrow,rfl,hri,hanc,heff,hrd,hfl⟩:=L.find (i:=i) (by omega)
   rw [En_succ ops i ho]
   rcases step_hs (L.st i row hrow) with ⟨h1,p,h2⟩ | ⟨h1,h2⟩
   ·rw [if_pos (by rw [←heff,h1]),h2,List.length_cons,ih]
   ·rw [if_neg (by rw [←heff,h1];simp),h2,ih,Nat.add_zero]
theorem Lg.hsApp {i:Nat}:∀ j,i≤j→j≤ops.length→∃ x,(M j).hs=x ++ (M i).hs
 | 0,h,_=>by rw [Nat.le_zero.1 h];exact ⟨[],rfl⟩
 | j+1,h,hj=>by
   rcases Nat.lt_or_ge i (j+1) with h1 | h1
   ·obtain ⟨x,hx⟩:=Lg.hsApp (i:=i) j (by omega) (by omega)
    obtain ⟨o,row,ho,hrow,_⟩:=L.find (i:=j) (by omega)
    rcases step_hs (L.st j row hrow) with ⟨_,p,h2⟩ | ⟨_,h2⟩
    ·exact ⟨p :: x,by rw [h2,hx];rfl⟩
    ·exact ⟨x,by rw [h2,hx]⟩
   ·rw [show i=j+1 by omega];exact ⟨[],rfl⟩
omit L in
theorem kOf_app (p:H × Option Nat):∀ x:List (H × Option Nat),kOf (x ++ [p])=p.1.n
 | []=>rfl
 | [q]=>rfl
 | q :: q2 :: x=>by
   have:=kOf_app p (q2 :: x)
   show kOf (q2 :: x ++ [p])=_
   exact this
theorem Lg.kAt {i:Nat} (hi:i≤ops.length):kOf (M i).hs=n0+flN ops:=by
 obtain ⟨x,hx⟩:=L.hsApp i (Nat.zero_le _) hi
 obtain ⟨g,m,h1,h2,_⟩:=L.z
 rw [hx,h1,kOf_app,h2]
theorem Lg.old {g:H} {m:Option Nat} {b:Nat} {y:Blk} (h:gs (M ops.length).hs 0=some (g,m)) (hb:g.get b=some y):b < n0+flN ops:=by
 obtain ⟨g1,m1,h1,h2,h3⟩:=L.z
 obtain ⟨x,hx⟩:=L.hsApp ops.length (Nat.zero_le _) (Nat.le_refl _)
 rw [hx,h1,gs_app _ _ (by simp)] at h
 cases h
 rw [←h2]
 exact h3 b y hb
theorem Lg.gsAt {i s:Nat} (hi:i≤ops.length) (hs:s≤En ops i):gs (M ops.length).hs s=gs (M i).hs s:=by
 obtain ⟨x,hx⟩:=L.hsApp ops.length hi (Nat.le_refl _)
 rw [hx,gs_app _ _ (by rw [L.hsLen i hi];omega)]
theorem Lg.lsMem {i:Nat} {p:Nat × Nat} (hp:p∈(M i).ls):∀ j,i≤j→j≤ops.length→p∈(M j).ls
 | 0,h,_=>by rw [Nat.le_zero.1 h] at hp;exact hp
 | j+1,h,hj=>by
   rcases Nat.lt_or_ge i (j+1) with h1 | h1
   ·have ih:=Lg.lsMem hp j (by omega) (by omega)
    obtain ⟨o,row,ho,hrow,_⟩:=L.find (i:=j) (by omega)
    obtain ⟨h,m,rest,hh,h2 | h2⟩:=Qbo (L.st j row hrow)
    ·rw [h2.2.2]
     unfold skipS
     split <;> exact ih
    ·obtain ⟨_,v,d,_⟩:=h2
     generalize M (j+1)=S' at d
     cases d with
     | load=>exact List.mem_cons_of_mem _ ih
     | _=>exact ih
   ·rw [show i=j+1 by omega] at hp;exact hp
theorem Lg.psOk:∀ i,i≤ops.length→(∀ p∈(M i).ps,p.1 < i∧FL P n0 ops T p.1 p.2.1 p.2.2∧¬ Mg ops bf T (En ops i) p.1)∧(M i).ps.Pairwise fun p q=>q.1 < p.1
 | 0,_=>by rw [L.m0.2.2];exact ⟨fun p h=>(by cases h),List.Pairwise.nil⟩
 | i+1,hi=>by
   obtain ⟨ih,ihp⟩:=Lg.psOk i (by omega)
   obtain ⟨o,row,ho,hrow,rfl,hri,hanc,heff,hrd,hfl⟩:=L.find (i:=i) (by omega)
   have mgs:∀ k,Mg ops bf T (En ops (i+1)) k→Mg ops bf T (En ops i) k∨(effB row.o.op=true∧wantV ops (tget (T i)) row.o=some true∧anB bf i k=true):=by
    rintro k ⟨j,x,h1,h2,h3,h4,h5⟩
    have h6:=(En_lt h1 h2).1 h4
    rcases Nat.lt_or_ge j i with h7 | h7
    · exact .inl ⟨j,x,h1,h2,h3,(En_lt h1 h2).2 h7,h5⟩
    · obtain rfl:j=i:=by omega
      rw [ho] at h1
      cases h1
      exact .inr ⟨h2,h3,h5⟩
   have same:(∀ p∈(M i).ps,¬ (effB row.o.op=true∧wantV ops (tget (T i)) row.o=some true∧anB bf i p.1=true))→(∀ p∈(M i).ps,p.1 < i+1∧FL P n0 ops T p.1 p.2.1 p.2.2∧¬ Mg ops bf T (En ops (i+1)) p.1)∧(M i).ps.Pairwise fun p q=>q.1 < p.1:=fun hno=>
    ⟨fun p hp=>⟨by have:=(ih p hp).1;omega,(ih p hp).2.1,fun hm=>(mgs _ hm).elim (ih p hp).2.2 (hno p hp)⟩,ihp⟩
   have rest:(∀ p∈restA row.anc (M i).ps,p.1 < i+1∧FL P n0 ops T p.1 p.2.1 p.2.2∧¬ Mg ops bf T (En ops (i+1)) p.1)∧(restA row.anc (M i).ps).Pairwise fun p q=>q.1 < p.1:=
    ⟨fun p hp=>(by
      obtain ⟨k1,k2⟩:=restA_mem hp
      refine ⟨by have:=(ih p k1).1;omega,(ih p k1).2.1,fun hm=>(mgs _ hm).elim (ih p k1).2.2 fun ⟨_,_,h3⟩=>?_⟩
      rw [←hanc,k2] at h3
      cases h3),ihp.sublist (restA_sub _)⟩
   obtain ⟨h,m,rst,hh,h2 | h2⟩:=Qbo (L.st i row hrow)
   ·rw [h2.2.2]
    have:=same fun p hp hq=>by rw [h2.1] at hq;cases hq.2.1
    unfold skipS
    split <;> exact this
   ·obtain ⟨hw,v,d,_⟩:=h2
    have noeff:row.eff=false→(∀ p∈(M i).ps,¬ (effB row.o.op=true∧wantV ops (tget (T i)) row.o=some true∧anB bf i p.1=true)):=fun h1 p hp hq=>by rw [←heff,h1] at hq;cases hq.1
    generalize M (i+1)=S' at d
    cases d with
    | full=>exact rest
    | part=>exact rest
    | eff=>exact rest
    | float q v hf b he hq hv hb=>
      rw [hfl] at hq
      split at hq
      ·rename_i hflb
       cases hq
       obtain ⟨s1,s2⟩:=same (noeff he)
       refine ⟨fun p hp=>?_,List.Pairwise.cons (fun p hp=>by rw [hri];exact (ih p hp).1) s2⟩
       rcases List.mem_cons.1 hp with rfl | hp
       ·rw [hri]
        refine ⟨Nat.lt_succ_self _,⟨_,ho,hflb,rfl,hw,v,hf,hv,hb⟩,?_⟩
        rintro ⟨j,x,k1,k2,k3,k4,k5⟩
        have:=(En_lt k1 k2).1 k4
        have:=L.od.lt j x k1 i k5
        omega
       ·exact s1 p hp
      ·cases hq
    | load b g m v h' he hq hr hb hm hg hv=>exact same (noeff he)
    | pure v h' he hq hr hv=>exact same (noeff he)
theorem Lg.tOther {i:Nat} {o:Oper} (ho:ops[i]? =some o) {t:Nat} (hd:o.dst≠some t):tget (T (i+1)) t=tget (T i) t:=by
 obtain ⟨o',row,ho',hrow,rfl,_⟩:=L.find (i:=i) (List.getElem?_eq_some_iff.1 ho).1
 rw [ho] at ho'
 cases ho'
 obtain ⟨h,m,rest,hh,h2 | h2⟩:=Qbo (L.st i row hrow)
 ·rw [putT_get h2.2.1,if_neg hd]
 ·obtain ⟨_,v,d,hp⟩:=h2
  rw [putT_get hp,if_neg hd]
end
open Classical in
noncomputable def tW (ops:List Oper) (T:Nat→TT V) (S:Nat→Prop):Nat→Nat→V
 | 0,t=>tget (T 0) t
 | k+1,t=>if S k∧∃ o,ops[k]? =some o∧o.dst=some t then tget (T (k+1)) t else tW ops T S k t
theorem tW_congr {ops:List Oper} {T:Nat→TT V} {S S':Nat→Prop} {t:Nat} (h:∀ j o,ops[j]? =some o→o.dst=some t→(S j↔S' j)):∀ k,tW ops T S k t=tW ops T S' k t
 | 0=>rfl
 | k+1=>by
   unfold tW
   by_cases h1:∃ o,ops[k]? =some o∧o.dst=some t
   ·obtain ⟨o,h2,h3⟩:=h1
    by_cases h4:S k
    ·rw [if_pos ⟨h4,o,h2,h3⟩,if_pos ⟨(h k o h2 h3).1 h4,o,h2,h3⟩]
    ·rw [if_neg fun x=>h4 x.1,if_neg fun x=>h4 ((h k o h2 h3).2 x.1)]
     exact tW_congr h k
   ·rw [if_neg fun x=>h1 x.2,if_neg fun x=>h1 x.2]
    exact tW_congr h k
theorem tW_eq {P:Program} {go:Task→Option Out} {n0 N:Nat} {ops:List Oper} {bf:List Nat} {l:List Row} {T:Nat→TT V} {M:Nat→Ms} (L:Lg P go n0 N ops bf l T M) {S:Nat→Prop} {t i:Nat}
   (h:∀ j o,ops[j]? =some o→o.dst=some t→(S j↔j < i)):∀ k,k≤ops.length→tW ops T S k t=tget (T (min i k)) t
 | 0,_=>by rw [Nat.min_zero];rfl
 | k+1,hk=>by
   have ih:=tW_eq L h k (by omega)
   have ho:ops[k]? =some ops[k]:=List.getElem?_eq_getElem hk
   unfold tW
   by_cases h1:ops[k].dst=some t
   · by_cases h2:k < i
     ·rw [if_pos ⟨(h k _ ho h1).2 h2,_,ho,h1⟩,Nat.min_eq_right (by omega)]
     ·rw [if_neg fun x=>h2 ((h k _ ho h1).1 x.1),ih,Nat.min_eq_left (by omega),Nat.min_eq_left (by omega)]
   · rw [if_neg fun ⟨_,o,h3,h4⟩=>h1 (by rw [ho] at h3;cases h3;exact h4),ih]
     by_cases h2:k < i
     ·rw [Nat.min_eq_right (by omega),Nat.min_eq_right (by omega),L.tOther ho h1]
     ·rw [Nat.min_eq_left (by omega),Nat.min_eq_left (by omega)]
end Go.Ev
namespace Go.Ev
open Go
set_option linter.unusedVariables false
set_option linter.unusedSimpArgs false
theorem memB_true {t:Nat}:∀ {l:List Nat},t∈l→memB t l=true
 | x :: l,h=>by
   have hs:memB t (x :: l)=Bool.rec (memB t l) true (Nat.beq x t):=rfl
   rw [hs]
   cases hb:Nat.beq x t with
   | true=>rfl
   | false=>
     rcases List.mem_cons.1 h with rfl | h2
     ·rw [show Nat.beq t t=true from Nat.beq_refl t] at hb;cases hb
     ·exact memB_true h2
theorem tmpsOf_mem {t:Nat}:∀ {l:List Operand},Operand.tmp t∈l→t∈tmpsOf l
 | x :: l,h=>by
   have hs:tmpsOf (x :: l)=(match x with | .tmp u=>u :: tmpsOf l | _=>tmpsOf l):=by cases x <;> rfl
   rw [hs]
   rcases List.mem_cons.1 h with rfl | h2
   ·exact List.mem_cons_self
   ·have:=tmpsOf_mem h2
    cases x <;> first | exact this | exact List.mem_cons_of_mem _ this
theorem reads_op {ops:List Oper} {o:Oper} {t:Nat} (h:t∈tmpsOf o.op.operands.toList):t∈readsOf ops o:=by
 unfold readsOf
 simp only
 split
 ·split
  ·split
   ·exact List.mem_cons_of_mem _ h
   ·exact h
  ·exact h
 ·exact h
theorem reads_guard {ops:List Oper} {o q:Oper} {j d:Nat} {b:Bool} (hg:o.guard=some (j,b)) (hq:lget ops j=some q) (hd:q.dst=some d):d∈readsOf ops o:=by
 unfold readsOf
 simp only [hg,hq,hd]
 exact List.mem_cons_self
theorem clash_false {ops:List Oper} {a b:Oper} (h:clash ops a b=false) {d:Nat} (hd:a.dst=some d):d ∉ readsOf ops b∧b.dst≠some d:=by
 unfold clash at h
 rw [hd] at h
 simp only [Bool.or_eq_false_iff] at h
 refine ⟨fun hm=>?_,fun hb=>?_⟩
 ·rw [memB_true hm] at h;cases h.1
 ·rw [hb] at h
  have h2:=h.2
  simp only at h2
  rw [show Nat.beq d d=true from Nat.beq_refl d] at h2
  cases h2
theorem neO_ne {m:Option Nat} {b:Nat} (h:neO m b=true):m≠some b:=by
 intro e
 subst e
 have hs:neO (some b) b=Bool.rec true false (Nat.beq b b):=rfl
 rw [hs,show Nat.beq b b=true from Nat.beq_refl b] at h
 cases h
theorem freeOf_mem {anc:Nat} {m:Option Nat}:∀ {ls:List (Nat × Nat)},Qco anc m ls=true→∀ p∈ls,bit anc p.1=true∨neO m p.2=true
 | q :: ls,h,p,hp=>by
   have hs:Qco anc m (q :: ls)=Bool.rec (Bool.rec false (Qco anc m ls) (neO m q.2)) (Qco anc m ls) (bit anc q.1):=rfl
   rw [hs] at h
   cases hb:bit anc q.1 with
   | true=>
     rw [hb] at h
     rcases List.mem_cons.1 hp with rfl | h2
     · exact .inl hb
     · exact freeOf_mem (show Qco anc m ls=true from h) p h2
   | false=>
     rw [hb] at h
     cases hn:neO m q.2 with
     | false=>rw [hn] at h;cases h
     | true=>
       rw [hn] at h
       rcases List.mem_cons.1 hp with rfl | h2
       ·exact .inr hn
       ·exact freeOf_mem (show Qco anc m ls=true from h) p h2
theorem freeMs_get {b:Nat}:∀ {n:Nat} {l:List (H × Option Nat)},freeMs b n l=true→∀ k p,k < n→l[k]? =some p→neO p.2 b=true
 | 0,_,_,k,_,hk,_=>absurd hk (Nat.not_lt_zero _)
 | n+1,[],_,k,p,_,hp=>by simp at hp
 | n+1,q :: l,h,k,p,hk,hp=>by
   have hs:freeMs b (n+1) (q :: l)=Bool.rec false (freeMs b n l) (neO q.2 b):=rfl
   rw [hs] at h
   cases hn:neO q.2 b with
   | false=>rw [hn] at h;cases h
   | true=>
     rw [hn] at h
     cases k with
     | zero=>simp only [List.getElem?_cons_zero,Option.some.injEq] at hp;subst hp;exact hn
     | succ k=>exact freeMs_get (show freeMs b n l=true from h) k p (by omega) (by simpa using hp)
theorem HRP.mergeA {w0:World} {env:Env} {h:H} {w:World} {Q:Nat→Blk→Prop} (x:HRP w0 env h w Q) (anc:Nat):∀ ps:List (Nat × Nat × Blk),(∀ p∈ps,bit anc p.1=true→Q p.2.1 p.2.2)→(ps.Pairwise fun p q=>p.2.1≠q.2.1)→
   HRP w0 env (Ev.mergeA anc ps h) w (fun n y=>Q n y∧∀ p∈ps,bit anc p.1=true→n≠p.2.1)∧(Ev.mergeA anc ps h).n=h.n∧(Ev.mergeA anc ps h).fl=h.fl∧∀ b,(∀ p∈ps,bit anc p.1=true→b≠p.2.1)→(Ev.mergeA anc ps h).get b=h.get b
 | [],_,_=>⟨x.mono fun _ _ h=>h.1,rfl,rfl,fun _ _=>rfl⟩
 | p :: ps,hq,hp=>by
   obtain ⟨i1,i2,i3,i4⟩:=HRP.mergeA x anc ps (fun q hq2=>hq q (List.mem_cons_of_mem _ hq2)) (List.pairwise_cons.1 hp).2
   have hs:Ev.mergeA anc (p :: ps) h=Bool.rec (Ev.mergeA anc ps h) ((Ev.mergeA anc ps h).put p.2.1 p.2.2) (bit anc p.1):=rfl
   rw [hs]
   cases hb:bit anc p.1 with
   | false=>
     refine ⟨i1.mono fun n y h=>⟨h.1,fun q hq2=>h.2 q (List.mem_cons_of_mem _ hq2)⟩,i2,i3,fun b hbb=>i4 b fun q hq2=>hbb q (List.mem_cons_of_mem _ hq2)⟩
   | true=>
     refine ⟨(i1.merge ⟨hq p List.mem_cons_self hb,fun q hq2 _=>(List.pairwise_cons.1 hp).1 q hq2⟩).mono fun n y h=>⟨⟨h.1,fun q hq2=>h.2 q (List.mem_cons_of_mem _ hq2)⟩,h.2 p List.mem_cons_self hb⟩,i2,i3,fun b hbb=>?_⟩
     show ((Ev.mergeA anc ps h).put p.2.1 p.2.2).get b=_
     rw [H.get_put,if_neg (hbb p List.mem_cons_self hb)]
     exact i4 b fun q hq2=>hbb q (List.mem_cons_of_mem _ hq2)
theorem HRP.mergeL {w0:World} {env:Env} {h:H} {w:World} {Q:Nat→Blk→Prop} (x:HRP w0 env h w Q):∀ ps:List (Nat × Nat × Blk),(∀ p∈ps,Q p.2.1 p.2.2)→(ps.Pairwise fun p q=>p.2.1≠q.2.1)→
   HRP w0 env (Ev.mergeL ps h) w (fun n y=>Q n y∧∀ p∈ps,n≠p.2.1)∧(Ev.mergeL ps h).n=h.n∧(Ev.mergeL ps h).fl=h.fl∧∀ b,(∀ p∈ps,b≠p.2.1)→(Ev.mergeL ps h).get b=h.get b
 | [],_,_=>⟨x.mono fun _ _ h=>h.1,rfl,rfl,fun _ _=>rfl⟩
 | p :: ps,hq,hp=>by
   obtain ⟨i1,i2,i3,i4⟩:=HRP.mergeL x ps (fun q hq2=>hq q (List.mem_cons_of_mem _ hq2)) (List.pairwise_cons.1 hp).2
   have hs:Ev.mergeL (p :: ps) h=(Ev.mergeL ps h).put p.2.1 p.2.2:=rfl
   rw [hs]
   refine ⟨(i1.merge ⟨hq p List.mem_cons_self,fun q hq2=>(List.pairwise_cons.1 hp).1 q hq2⟩).mono fun n y h=>⟨⟨h.1,fun q hq2=>h.2 q (List.mem_cons_of_mem _ hq2)⟩,h.2 p List.mem_cons_self⟩,i2,i3,fun b hbb=>?_⟩
   rw [H.get_put,if_neg (hbb p List.mem_cons_self)]
   exact i4 b fun q hq2=>hbb q (List.mem_cons_of_mem _ hq2)
section
variable (P:Program) (n0 N:Nat) (ops:List Oper) (bf:List Nat) (l:List Row) (T:Nat→TT V) (M:Nat→Ms) (w0:World) (env0:Env) (h0:H) (wst:World) (d0:List Deferred)
def Pd (S:Nat→Prop) (c n:Nat) (y:Blk):Prop:=∃ i,S i∧FL P n0 ops T i n y∧¬ Mg ops bf T c i
structure Iv (S:Nat→Prop) (c:Nat) (G:H) (tmS:TT V) (env:Env) (w:World) (a:Act):Prop where
 sub:∀ i,S i→i < ops.length
 down:∀ i,S i→∀ j,anB bf i j=true→S j
 eff:∀ j o,ops[j]? =some o→effB o.op=true→(S j↔En ops j < c)
 cle:c≤En ops ops.length
 g:∃ μ,gs (M ops.length).hs c=some (G,μ)
 x:HRP w0 env G w (Pd P n0 ops bf T S c)
 gn:Gn env0 h0 wst env w
 hg:HG h0 G
 nn:n0+flN ops≤G.n
 un:∀ i o,ops[i]? =some o→flB o.op=true→¬ S i→env (n0+i)=none
 ts:TR env tmS N a.tmps
 tm:∀ t,tget tmS t=tW ops T S ops.length t
 df:a.defers=d0
 ld:∀ i o row b,ops[i]? =some o→l[i]? =some row→rdB o.op=true→¬ S i→wantV ops (tget (T i)) o=some true→rdO (ev0 (T i)) o.op=some b→row.st≤c→∀ g μ,gs (M ops.length).hs row.st=some (g,μ)→G.get b=g.get b
end
section
variable {P:Program} {go:Task→Option Out} {n0 N:Nat} {ops:List Oper} {bf:List Nat} {l:List Row} {T:Nat→TT V} {M:Nat→Ms} {w0:World} {env0:Env} {h0:H} {wst:World} {d0:List Deferred}
 {S:Nat→Prop} {c:Nat} {G:H} {tmS:TT V} {env:Env} {w:World} {a:Act}
theorem Iv.writers (L:Lg P go n0 N ops bf l T M) (I:Iv P n0 N ops bf l T M w0 env0 h0 wst d0 S c G tmS env w a) {i:Nat} {o:Oper} (ho:ops[i]? =some o) (hS: ¬ S i) (hr:∀ j,anB bf i j=true→S j) {t:Nat} (ht:t∈readsOf ops o∨o.dst=some t)
  {j:Nat} {x:Oper} (hj:ops[j]? =some x) (hx:x.dst=some t) (hij:j≠i):S j↔j < i:=by
 rcases L.od.pair j i x o hj ho hij with h1 | ⟨h1,_,_⟩
 ·rcases h1 with h1 | h1
  ·constructor
   ·intro h2;exact absurd (I.down j h2 i h1) hS
   ·intro h2;have:=L.od.lt j x hj i h1;omega
  ·exact ⟨fun _=>L.od.lt i o ho j h1,fun _=>hr j h1⟩
 ·obtain ⟨h2,h3⟩:=clash_false h1 hx
  rcases ht with ht | ht
  ·exact absurd ht h2
  ·exact absurd ht h3
theorem Iv.agree (L:Lg P go n0 N ops bf l T M) (I:Iv P n0 N ops bf l T M w0 env0 h0 wst d0 S c G tmS env w a) {i:Nat} {o:Oper} (ho:ops[i]? =some o) (hS: ¬ S i) (hr:∀ j,anB bf i j=true→S j) {t:Nat} (ht:t∈readsOf ops o):tget tmS t=tget (T i) t:=by
 have hi:i < ops.length:=(List.getElem?_eq_some_iff.1 ho).1
 rw [I.tm,tW_eq L (i:=i) (fun j x hj hx=>?_) ops.length (Nat.le_refl _),Nat.min_eq_left (by omega)]
 by_cases hij:j=i
 ·subst hij;exact ⟨fun h=>absurd h hS,fun h=>absurd h (Nat.lt_irrefl _)⟩
 ·exact I.writers L ho hS hr (.inl ht) hj hx hij
theorem Iv.agreeOp (L:Lg P go n0 N ops bf l T M) (I:Iv P n0 N ops bf l T M w0 env0 h0 wst d0 S c G tmS env w a) {i:Nat} {o:Oper} (ho:ops[i]? =some o) (hS: ¬ S i) (hr:∀ j,anB bf i j=true→S j) {x:Operand} (hx:x∈o.op.operands.toList):ev0 (T i) x=ev0 tmS x:=by
 cases x with
 | tmp t=>exact (I.agree L ho hS hr (reads_op (tmpsOf_mem hx))).symm
 | const v=>rfl
 | global g=>rfl
 | func f=>rfl
theorem Iv.agreeW (L:Lg P go n0 N ops bf l T M) (I:Iv P n0 N ops bf l T M w0 env0 h0 wst d0 S c G tmS env w a) {i:Nat} {o:Oper} (ho:ops[i]? =some o) (hS: ¬ S i) (hr:∀ j,anB bf i j=true→S j):wantV ops (tget tmS) o=wantV ops (tget (T i)) o:=by
 unfold wantV
 split
 ·rfl
 ·rename_i j b hg
  split
  ·rename_i q hq
   split
   ·rename_i d hd
    rw [I.agree L ho hS hr (reads_guard hg hq hd)]
   ·rfl
  ·rfl
theorem Iv.newT (L:Lg P go n0 N ops bf l T M) (I:Iv P n0 N ops bf l T M w0 env0 h0 wst d0 S c G tmS env w a) {i:Nat} {o:Oper} (ho:ops[i]? =some o) (hS: ¬ S i) (hr:∀ j,anB bf i j=true→S j) {v:V} (hp:putT N (T i) v o.dst=some (T (i+1))):
  ∃ tm',putT N tmS v o.dst=some tm'∧∀ t,tget tm' t=tW ops T (fun j=>S j∨j=i) ops.length t:=by
 have hi:i < ops.length:=(List.getElem?_eq_some_iff.1 ho).1
 obtain ⟨tm',h1⟩:=putT_any hp tmS
 refine ⟨tm',h1,fun t=>?_⟩
 rw [putT_get h1]
 by_cases hd:o.dst=some t
 ·rw [if_pos hd,tW_eq L (i:=i+1) (fun j x hj hx=>?_) ops.length (Nat.le_refl _),Nat.min_eq_left (by omega),putT_get hp,if_pos hd]
  by_cases hij:j=i
  ·exact ⟨fun _=>by omega,fun _=>.inr hij⟩
  ·have:=I.writers L ho hS hr (.inr hd) hj hx hij
   constructor
   ·rintro (h2 | h2)
    ·have:=this.1 h2;omega
    ·omega
   ·intro h2;exact .inl (this.2 (by omega))
 ·rw [if_neg hd,I.tm]
  refine tW_congr (fun j x hj hx=>⟨fun h=>.inl h,fun h=>?_⟩) _
  rcases h with h | h
  ·exact h
  ·subst h
   rw [ho] at hj
   cases hj
   exact absurd hx hd
end
end Go.Ev
namespace Go.Ev
open Go
set_option linter.unusedVariables false
set_option linter.unusedSimpArgs false
theorem callee_eff {o:Op} (h:effB o=false):Qbh o=none:=by
 cases hc:Qbh o with
 | none=>rfl
 | some p=>
   obtain ⟨f,xs⟩:=p
   obtain ⟨c,rfl,hf,_⟩:=calleeO_some hc
   simp only [effB,hf] at h
   cases h
theorem fl_eff {o:Op} (h:flB o=true):effB o=false:=by
 cases o <;> first | rfl | cases h
theorem rd_eff {o:Op} (h:rdB o=true):effB o=false∧flB o=false:=by
 cases o <;> first | exact ⟨rfl,rfl⟩ | cases h
theorem Mg.mono {ops:List Oper} {bf:List Nat} {T:Nat→TT V} {c c' i:Nat} (h:c≤c') (x:Mg ops bf T c i):Mg ops bf T c' i:=by
 obtain ⟨j,o,h1,h2,h3,h4,h5⟩:=x
 exact ⟨j,o,h1,h2,h3,by omega,h5⟩
section
variable {P:Program} {go:Task→Option Out} {n0 N:Nat} {ops:List Oper} {bf:List Nat} {l:List Row} {T:Nat→TT V} {M:Nat→Ms}
theorem Lg.loadAt (L:Lg P go n0 N ops bf l T M) {k:Nat} {x:Oper} {row:Row} {b:Nat} (hk:ops[k]? =some x) (hrow:l[k]? =some row) (hr:rdB x.op=true) (hw:wantV ops (tget (T k)) x=some true) (hb:rdO (ev0 (T k)) x.op=some b):
  (k,b)∈(M (k+1)).ls∧freeMs b (En ops k - row.st) (M k).hs=true∧row.st≤En ops k∧∃ g m v h',gs (M ops.length).hs row.st=some (g,m)∧opV P g (ev0 (T k)) x.op=some (v,h')∧putT N (T k) v x.dst=some (T (k+1)):=by
 obtain ⟨row',h1,rfl,hri,hanc,heff,hrd,hfl,hst1,hst2,_⟩:=L.od.row k x hk
 rw [hrow] at h1
 cases h1
 have hlt:k < ops.length:=(List.getElem?_eq_some_iff.1 hk).1
 obtain ⟨e1,e2⟩:=rd_eff hr
 have hstle:row.st≤En ops k:=by
  rcases hst2 with h | ⟨j,y,h2,h3,h4,h5⟩
  · omega
  · have:=(En_lt h2 h3).2 (L.od.lt k _ hk j h4);omega
 have hlen:llen (M k).hs - 1 - row.st=En ops k - row.st:=by rw [Qao,L.hsLen k (by omega)];omega
 obtain ⟨h,m,rest,hh,h2 | h2⟩:=Qbo (L.st k row hrow)
 ·rw [hw] at h2;cases h2.1
 ·obtain ⟨_,v,d,hp⟩:=h2
  generalize hM:M (k+1)=S' at d
  cases d with
  | full f xs v h' he=>rw [heff,e1] at he;cases he
  | part f xs v h' he=>rw [heff,e1] at he;cases he
  | eff v h' he=>rw [heff,e1] at he;cases he
  | float q v hf b he hq=>rw [hfl,e2] at hq;cases hq
  | load b' g m v h' he hq hr' hb' hm hg hv=>
    rw [hb] at hb'
    cases hb'
    rw [hri]
    refine ⟨List.mem_cons_self,by rw [←hlen];exact hm,hstle,g,m,v,h',?_,hv,hp⟩
    rw [gs_lget (by rw [L.hsLen k (by omega)];omega)] at hg
    rw [L.gsAt (by omega) hstle]
    exact hg
  | pure v h' he hq hr' hv=>rw [hrd,hr] at hr';cases hr'
end
section
variable {P:Program} {go:Task→Option Out} {n0 N:Nat} {ops:List Oper} {bf:List Nat} {l:List Row} {T:Nat→TT V} {M:Nat→Ms} {w0:World} {env0:Env} {h0:H} {wst:World} {d0:List Deferred}
 {S:Nat→Prop} {c:Nat} {G:H} {tmS:TT V} {env:Env} {w:World} {a:Act}
theorem Iv.stage (L:Lg P go n0 N ops bf l T M) (I:Iv P n0 N ops bf l T M w0 env0 h0 wst d0 S c G tmS env w a) {i:Nat} {o:Oper} (ho:ops[i]? =some o) (he:effB o.op=true) (hS: ¬ S i) (hr:∀ j,anB bf i j=true→S j):c=En ops i:=by
 have h1: ¬ En ops i < c:=fun h=>hS ((I.eff i o ho he).2 h)
 rcases Nat.lt_or_ge c (En ops i) with h2 | h2
 ·obtain ⟨j,x,h3,h4,h5,h6⟩:=En_find ops i c h2
  have h7: ¬ S j:=fun h=>by have:=(I.eff j x h4 h5).1 h;omega
  rcases L.od.pair j i x o h4 ho (by omega) with (h8 | h8) | ⟨_,_,h8⟩
  ·have:=L.od.lt j x h4 i h8;omega
  ·exact absurd (hr j h8) h7
  ·exact absurd ⟨h5,he⟩ h8
 ·omega
theorem Iv.head (L:Lg P go n0 N ops bf l T M) (I:Iv P n0 N ops bf l T M w0 env0 h0 wst d0 S c G tmS env w a) {i:Nat} (hi:i < ops.length) (hc:c=En ops i) {h:H} {m:Option Nat} {rest:List (H × Option Nat)} (hh:(M i).hs=(h,m) :: rest):h=G:=by
 have h1:=L.hsLen i (by omega)
 rw [hh,List.length_cons] at h1
 have h2:=L.gsAt (i:=i) (s:=c) (by omega) (by omega)
 rw [hh,show c=rest.length by omega,gs_head] at h2
 obtain ⟨μ,h3⟩:=I.g
 rw [show c=rest.length by omega,h2] at h3
 cases h3
 rfl
theorem Iv.plain (L:Lg P go n0 N ops bf l T M) (I:Iv P n0 N ops bf l T M w0 env0 h0 wst d0 S c G tmS env w a) {i:Nat} {o:Oper} (ho:ops[i]? =some o) (he:effB o.op=false) (hr:∀ j,anB bf i j=true→S j) {tm':TT V} {env':Env} {w':World} {a':Act}
  (x:HRP w0 env' G w' (Pd P n0 ops bf T (fun j=>S j∨j=i) c)) (gn:Gn env0 h0 wst env' w') (un:∀ j y,ops[j]? =some y→flB y.op=true→¬ S j→j≠i→env' (n0+j)=none) (ts:TR env' tm' N a'.tmps) (tm:∀ t,tget tm' t=tW ops T (fun j=>S j∨j=i) ops.length t) (df:a'.defers=d0):
  Iv P n0 N ops bf l T M w0 env0 h0 wst d0 (fun j=>S j∨j=i) c G tm' env' w' a' where
 sub:=fun j hj=>by
  rcases hj with hj | rfl
  · exact I.sub j hj
  · exact (List.getElem?_eq_some_iff.1 ho).1
 down:=fun j hj k hk=>by
  rcases hj with hj | rfl
  · exact .inl (I.down j hj k hk)
  · exact .inl (hr k hk)
 eff:=fun j y hj hy=>by
  constructor
  · rintro (h | rfl)
    ·exact (I.eff j y hj hy).1 h
    ·rw [ho] at hj;cases hj;rw [he] at hy;cases hy
  · intro h;exact .inl ((I.eff j y hj hy).2 h)
 cle:=I.cle
 g:=I.g
 x:=x
 gn:=gn
 hg:=I.hg
 nn:=I.nn
 un:=fun j y hj hy hn=>un j y hj hy (fun h=>hn (.inl h)) (fun h=>hn (.inr h))
 ts:=ts
 tm:=tm
 df:=df
 ld:=fun k y row b hk hrow hrd hn=>I.ld k y row b hk hrow hrd fun h=>hn (.inl h)
theorem Iv.effs (L:Lg P go n0 N ops bf l T M) (I:Iv P n0 N ops bf l T M w0 env0 h0 wst d0 S c G tmS env w a) {i:Nat} {o:Oper} (ho:ops[i]? =some o) (he:effB o.op=true) (hS: ¬ S i) (hr:∀ j,anB bf i j=true→S j) {G':H} {μ:Option Nat} {tm':TT V} {env':Env} {w':World} {a':Act}
  (hgs:gs (M ops.length).hs (c+1)=some (G',μ)) (x:HRP w0 env' G' w' (Pd P n0 ops bf T (fun j=>S j∨j=i) (c+1))) (gn:Gn env0 h0 wst env' w') (hg:HG h0 G') (hn:G.n≤G'.n) (un:∀ j y,ops[j]? =some y→flB y.op=true→¬ S j→j≠i→env' (n0+j)=none)
  (ts:TR env' tm' N a'.tmps) (tm:∀ t,tget tm' t=tW ops T (fun j=>S j∨j=i) ops.length t) (df:a'.defers=d0)
  (same:∀ k y row b,ops[k]? =some y→l[k]? =some row→rdB y.op=true→¬ S k→k≠i→wantV ops (tget (T k)) y=some true→rdO (ev0 (T k)) y.op=some b→row.st≤c→G'.get b=G.get b):
  Iv P n0 N ops bf l T M w0 env0 h0 wst d0 (fun j=>S j∨j=i) (c+1) G' tm' env' w' a' where
 sub:=fun j hj=>by
  rcases hj with hj | rfl
  · exact I.sub j hj
  · exact (List.getElem?_eq_some_iff.1 ho).1
 down:=fun j hj k hk=>by
  rcases hj with hj | rfl
  · exact .inl (I.down j hj k hk)
  · exact .inl (hr k hk)
 eff:=fun j y hj hy=>by
  have hc:=I.stage L ho he hS hr
  constructor
  · rintro (h | rfl)
    ·have:=(I.eff j y hj hy).1 h;omega
    ·omega
  · intro h
    by_cases h2:En ops j < c
    ·exact .inl ((I.eff j y hj hy).2 h2)
    ·right
     have e1:=En_lt (i:=i) hj hy
     have e2:=En_lt (i:=j) ho he
     omega
 cle:=by
  have hc:=I.stage L ho he hS hr
  have h1:=(En_lt (i:=ops.length) ho he).2 (List.getElem?_eq_some_iff.1 ho).1
  omega
 g:=⟨μ,hgs⟩
 x:=x
 gn:=gn
 hg:=hg
 nn:=Nat.le_trans I.nn hn
 un:=fun j y hj hy hn=>un j y hj hy (fun h=>hn (.inl h)) (fun h=>hn (.inr h))
 ts:=ts
 tm:=tm
 df:=df
 ld:=fun k y row b hk hrow hrd hn hw hb hst g μ' hgs'=>by
  by_cases h1:row.st≤c
  · rw [same k y row b hk hrow hrd (fun h=>hn (.inl h)) (fun h=>hn (.inr h)) hw hb h1]
    exact I.ld k y row b hk hrow hrd (fun h=>hn (.inl h)) hw hb h1 g μ' hgs'
  · rw [show row.st=c+1 by omega,hgs] at hgs'
    cases hgs'
    rfl
theorem Iv.fln (I:Iv P n0 N ops bf l T M w0 env0 h0 wst d0 S c G tmS env w a) {j:Nat} {y:Oper} (hj:ops[j]? =some y) (hy:flB y.op=true):n0+j < G.n:=by
 have h1:flN ops=ops.length:=by
  unfold flN
  have:(ops.any fun o=>flB o.op)=true:=List.any_eq_true.2 ⟨y,List.mem_of_getElem? hj,hy⟩
  rw [this]
  exact Qao _
 have:=I.nn
 have:=(List.getElem?_eq_some_iff.1 hj).1
 omega
theorem Iv.calm (L:Lg P go n0 N ops bf l T M) (hg:SndV P w0 go) (hf0:∀ x,h0.n≤x→env0 x=none) {opsA:Array Oper} (hA:opsA.toList=ops) (I:Iv P n0 N ops bf l T M w0 env0 h0 wst d0 S c G tmS env w a) {i:Nat} {o:Oper} (ho:ops[i]? =some o) (he:effB o.op=false) (hfl:flB o.op=false)
  (hS: ¬ S i) (hr:∀ j,anB bf i j=true→S j) (hw:wantV ops (tget (T i)) o=some true) {v:V} (hv:opV P G (ev0 (T i)) o.op=some (v,G)) (hp:putT N (T i) v o.dst=some (T (i+1))) (F:FS) (k:List Item) (cs:List Frame) (rest:List Nat):
  ∃ c' G' tm' env' w' a',Iv P n0 N ops bf l T M w0 env0 h0 wst d0 (fun j=>S j∨j=i) c' G' tm' env' w' a'∧Steps P (lone (Ev.mk F a (.inRegion opsA (i :: rest) :: k)) cs w) (lone (Ev.mk F a' (.inRegion opsA rest :: k)) cs w'):=by
 subst hA
 have ho':opsA[i]? =some o:=by simpa using ho
 have hw':Region.wanted o (yielded opsA a.tmps)=true:=wantV_ok ((I.agreeW L ho hS hr).trans hw) I.ts
 have hv':oneO P go G (ev0 tmS) o.op=some (v,G):=by
  unfold oneO
  rw [callee_eff he]
  show opV P G (ev0 tmS) o.op=_
  rw [←opV_congr fun x hx=>I.agreeOp L ho hS hr hx]
  exact hv
 obtain ⟨u,w',env',s1,v1,r1,g1,q1⟩:=oneO_ok hg I.x.hr (ev0_ok I.ts) hv' F k cs opsA i rest ho' hw'
 obtain ⟨tm',t1,t2⟩:=I.newT L ho hS hr hp
 obtain ⟨t3,t4⟩:=Qcm t1 (I.ts.mono g1.le) v1
 refine ⟨c,G,tm',env',w',a.put o.dst u,I.plain L ho he hr ?_ (Gn.trans hf0 I.hg I.gn g1) (fun j y hj hy hn hne=>?_) t3 t2 (t4.trans I.df),s1⟩
 ·refine (I.x.step r1 g1 q1).mono fun n y hq=>?_
  obtain ⟨j,h1,h2,h3⟩:=hq
  rcases h1 with h1 | rfl
  · exact ⟨j,h1,h2,h3⟩
  · obtain ⟨o2,h4,h5,_⟩:=h2
    rw [ho] at h4;cases h4;rw [hfl] at h5;cases h5
 ·rw [g1.old _ (I.fln hj hy)]
  exact I.un j y hj hy hn
theorem Iv.pass (L:Lg P go n0 N ops bf l T M) {opsA:Array Oper} (hA:opsA.toList=ops) (I:Iv P n0 N ops bf l T M w0 env0 h0 wst d0 S c G tmS env w a) {i:Nat} {o:Oper} {row:Row} (ho:ops[i]? =some o) (hrow:l[i]? =some row) (hS: ¬ S i) (hr:∀ j,anB bf i j=true→S j)
  (hw:wantV ops (tget (T i)) o=some false) (F:FS) (k:List Item) (cs:List Frame) (rest:List Nat):
  ∃ c' G' tm' env' w' a',Iv P n0 N ops bf l T M w0 env0 h0 wst d0 (fun j=>S j∨j=i) c' G' tm' env' w' a'∧Steps P (lone (Ev.mk F a (.inRegion opsA (i :: rest) :: k)) cs w) (lone (Ev.mk F a' (.inRegion opsA rest :: k)) cs w'):=by
 subst hA
 have hi:i < opsA.toList.length:=(List.getElem?_eq_some_iff.1 ho).1
 have ho':opsA[i]? =some o:=by simpa using ho
 have hw':Region.wanted o (yielded opsA a.tmps)=false:=wantV_ok ((I.agreeW L ho hS hr).trans hw) I.ts
 obtain ⟨row',h1,rfl,hri,hanc,heff,_⟩:=L.od.row i o ho
 rw [hrow] at h1
 cases h1
 obtain ⟨h,m,rst,hh,h2 | h2⟩:=Qbo (L.st i row hrow)
 ·obtain ⟨_,hp,hM⟩:=h2
  obtain ⟨tm',t1,t2⟩:=I.newT L ho hS hr hp
  obtain ⟨t3,t4⟩:=Qcm t1 I.ts (VR.mku env)
  have hst:Steps P (lone (Ev.mk F a (.inRegion opsA (i :: rest) :: k)) cs w) (lone (Ev.mk F (a.put row.o.dst undef) (.inRegion opsA rest :: k)) cs w):=by
    have:=st_op_skip (P:=P) (F:=F) (a:=a) (k:=k) (cs:=cs) (w:=w) (ops:=opsA) (i:=i) (rest:=rest) (by rw [ho'];simpa using hw')
    rw [ho'] at this
    exact .one this
  have noFL:∀ n y,¬ FL P n0 opsA.toList T i n y:=by
    rintro n y ⟨o2,h4,h5,h6,h7,_⟩
    rw [ho] at h4;cases h4;rw [hw] at h7;cases h7
  cases he:effB row.o.op with
  | false=>
    exact ⟨c,G,tm',env,w,_,I.plain L ho he hr (I.x.mono fun n y ⟨j,h1,h2,h3⟩=>by
     rcases h1 with h1 | rfl
     ·exact ⟨j,h1,h2,h3⟩
     ·exact absurd h2 (noFL _ _)) I.gn (fun j y hj hy hn _=>I.un j y hj hy hn) t3 t2 (t4.trans I.df),hst⟩
  | true=>
    have hc:=I.stage L ho he hS hr
    obtain rfl:=I.head L hi hc hh
    have hgs:gs (M opsA.toList.length).hs (c+1)=some (h,none):=by
     have e1:=En_succ opsA.toList i ho
     rw [if_pos he] at e1
     have hM2:(M (i+1)).hs=(h,none) :: (M i).hs:=by rw [hM];simp only [skipS,heff,he]
     have e2:=L.hsLen i (by omega)
     rw [L.gsAt (i:=i+1) (by omega) (by omega),hM2,show c+1=(M i).hs.length by omega,gs_head]
    exact ⟨c+1,h,tm',env,w,_,I.effs L ho he hS hr hgs (I.x.mono fun n y ⟨j,h1,h2,h3⟩=>by
     rcases h1 with h1 | rfl
     ·exact ⟨j,h1,h2,fun hm=>h3 (hm.mono (by omega))⟩
     ·exact absurd h2 (noFL _ _)) I.gn I.hg (Nat.le_refl _) (fun j y hj hy hn _=>I.un j y hj hy hn) t3 t2 (t4.trans I.df) (fun _ _ _ _ _ _ _ _ _ _ _ _=>rfl),hst⟩
 ·rw [hw] at h2;cases h2.1
end
end Go.Ev
namespace Go.Ev
open Go
set_option linter.unusedVariables false
set_option linter.unusedSimpArgs false
section
variable {P:Program} {go:Task→Option Out} {n0 N:Nat} {ops:List Oper} {bf:List Nat} {l:List Row} {T:Nat→TT V} {M:Nat→Ms} {w0:World} {env0:Env} {h0:H} {wst:World} {d0:List Deferred}
 {S:Nat→Prop} {c:Nat} {G:H} {tmS:TT V} {env:Env} {w:World} {a:Act}
theorem Iv.fresh (L:Lg P go n0 N ops bf l T M) (hn0:n0=h0.n) (hfl0:h0.fl≤h0.n) {opsA:Array Oper} (hA:opsA.toList=ops) (I:Iv P n0 N ops bf l T M w0 env0 h0 wst d0 S c G tmS env w a) {i:Nat} {o:Oper} (ho:ops[i]? =some o) (hfl:flB o.op=true)
  (hS: ¬ S i) (hr:∀ j,anB bf i j=true→S j) (hw:wantV ops (tget (T i)) o=some true) {v:V} {hf:H} {b:Blk} (hv:opV P ⟨.lf,n0+i,0⟩ (ev0 (T i)) o.op=some (v,hf)) (hb:hf.get (n0+i)=some b) (hp:putT N (T i) v o.dst=some (T (i+1))) (F:FS) (k:List Item) (cs:List Frame) (rest:List Nat):
  ∃ c' G' tm' env' w' a',Iv P n0 N ops bf l T M w0 env0 h0 wst d0 (fun j=>S j∨j=i) c' G' tm' env' w' a'∧Steps P (lone (Ev.mk F a (.inRegion opsA (i :: rest) :: k)) cs w) (lone (Ev.mk F a' (.inRegion opsA rest :: k)) cs w'):=by
 subst hA
 have ho':opsA[i]? =some o:=by simpa using ho
 have he:=fl_eff hfl
 have hw':Region.wanted o (yielded opsA a.tmps)=true:=wantV_ok ((I.agreeW L ho hS hr).trans hw) I.ts
 have hv':opV P ⟨.lf,n0+i,0⟩ (ev0 tmS) o.op=some (v,hf):=by
  rw [←opV_congr fun x hx=>I.agreeOp L ho hS hr hx]
  exact hv
 obtain ⟨vs,C,t,u,rfl,k2,k3,k4⟩:=opF (w:=w) hfl (ev0_ok I.ts) hv'
 have hbb:b= .cells vs t:=by
  unfold newV at hb
  rw [H.get_new,if_pos rfl] at hb
  exact (Option.some.inj hb).symm
 have hlt:=I.fln ho hfl
 have hun:=I.un i o ho hfl hS
 have hfle:G.fl≤n0+i:=by rw [I.hg.fl];omega
 obtain ⟨x1,le1,g1⟩:=I.x.add hun hlt hfle (C:=C) (t:=t) k2
 have s1:=st_value (P:=P) (F:=F) (a:=a) (k:=k) (cs:=cs) (rest:=rest) ho' hw' (opV_defer hv) k3 (.inl rfl)
 obtain ⟨tm',t1,t2⟩:=I.newT L ho hS hr hp
 obtain ⟨t3,t4⟩:=Qcm t1 (I.ts.mono le1) (k4 _ (Env.ext_self _ _ _))
 refine ⟨c,G,tm',_,_,a.put o.dst u,I.plain L ho he hr (x1.mono fun n y hq=>?_) (g1 (by omega) I.gn) (fun j y hj hy hn hne=>?_) t3 t2 (t4.trans I.df),.one s1⟩
 ·obtain ⟨j,h1,h2,h3⟩:=hq
  rcases h1 with h1 | rfl
  · exact .inl ⟨j,h1,h2,h3⟩
  · obtain ⟨o2,h4,h5,h6,h7,v2,hf2,h8,h9⟩:=h2
    rw [ho] at h4
    cases h4
    rw [hv] at h8
    cases h8
    rw [hb] at h9
    cases h9
    exact .inr ⟨h6,hbb⟩
 ·unfold Env.ext
  rw [if_neg (by omega)]
  exact I.un j y hj hy hn
theorem Iv.met (L:Lg P go n0 N ops bf l T M) (hn0:n0=h0.n) (hfl0:h0.fl≤h0.n) (I:Iv P n0 N ops bf l T M w0 env0 h0 wst d0 S c G tmS env w a) {i:Nat} {o:Oper} {row:Row} (ho:ops[i]? =some o) (hanc:∀ j,bit row.anc j=anB bf i j)
  (hc:c=En ops i) (hr:∀ j,anB bf i j=true→S j):
  HRP w0 env (mergeA row.anc (M i).ps G) w (fun n y=>Pd P n0 ops bf T S c n y∧∀ p∈(M i).ps,bit row.anc p.1=true→n≠p.2.1)∧HG h0 (mergeA row.anc (M i).ps G)∧(mergeA row.anc (M i).ps G).n=G.n∧(mergeA row.anc (M i).ps G).fl=G.fl∧
  (∀ b z e,G.get b=some z→z.live→env b=some e→(mergeA row.anc (M i).ps G).get b=G.get b)∧∀ p∈(M i).ps,p.2.1=n0+p.1:=by
 have hi:i < ops.length:=(List.getElem?_eq_some_iff.1 ho).1
 obtain ⟨ps1,ps2⟩:=L.psOk i (by omega)
 have hnn:∀ p∈(M i).ps,p.2.1=n0+p.1:=fun p hp=>by
  obtain ⟨_,⟨_,_,_,h,_⟩,_⟩:=ps1 p hp
  exact h
 have hpd:∀ p∈(M i).ps,bit row.anc p.1=true→Pd P n0 ops bf T S c p.2.1 p.2.2:=fun p hp hb=>by
  obtain ⟨_,h2,h3⟩:=ps1 p hp
  rw [hanc] at hb
  exact ⟨p.1,hr _ hb,h2,by rw [hc];exact h3⟩
 obtain ⟨x1,n1,f1,o1⟩:=I.x.mergeA row.anc (M i).ps hpd (ps2.imp_of_mem fun {p q} hp hq h=>by rw [hnn p hp,hnn q hq];omega)
 refine ⟨x1,⟨f1.trans I.hg.fl,by rw [n1];exact I.hg.n,fun b hb=>?_,fun b z hb hz hl=>?_⟩,n1,f1,fun b z e hz hl hbe=>?_,hnn⟩
 ·rw [o1 b fun p hp _=>by rw [hnn p hp];omega]
  exact I.hg.low b hb
 ·rw [o1 b fun p hp _=>by rw [hnn p hp];omega] at hz
  exact I.hg.live b z hb hz hl
 ·refine o1 b fun p hp hbp hbe2=>?_
  obtain ⟨_,_,_,e',h1,_,h2⟩:=I.x.q _ _ (hpd p hp hbp)
  rw [←hbe2,hbe] at h1
  cases h1
  exact h2 b z e hz hl hbe rfl
theorem Iv.effD (L:Lg P go n0 N ops bf l T M) (hg:SndV P w0 go) (hn0:n0=h0.n) (hfl0:h0.fl≤h0.n) (hf0:∀ x,h0.n≤x→env0 x=none) {opsA:Array Oper} (hA:opsA.toList=ops) (I:Iv P n0 N ops bf l T M w0 env0 h0 wst d0 S c G tmS env w a) {i:Nat} {o:Oper} {row:Row} (ho:ops[i]? =some o) (hrow:l[i]? =some row) (he:effB o.op=true)
   (hS: ¬ S i) (hr:∀ j,anB bf i j=true→S j) (hw:wantV ops (tget (T i)) o=some true) {v:V} (hM:Did P go n0 (ev0 (T i)) row (M i) G v (M (i+1))) (hp:putT N (T i) v o.dst=some (T (i+1))) (F:FS) (k:List Item) (cs:List Frame) (rest:List Nat):
   ∃ c' G' tm' env' w' a',Iv P n0 N ops bf l T M w0 env0 h0 wst d0 (fun j=>S j∨j=i) c' G' tm' env' w' a'∧Steps P (lone (Ev.mk F a (.inRegion opsA (i :: rest) :: k)) cs w) (lone (Ev.mk F a' (.inRegion opsA rest :: k)) cs w'):=by
 subst hA
 have hi:i < opsA.toList.length:=(List.getElem?_eq_some_iff.1 ho).1
 have ho':opsA[i]? =some o:=by simpa using ho
 have hw':Region.wanted o (yielded opsA a.tmps)=true:=wantV_ok ((I.agreeW L ho hS hr).trans hw) I.ts
 obtain ⟨row',h1,rfl,hri,hanc,heff,hrd,hfl,hst1,hst2,hfull,hhalf⟩:=L.od.row i o ho
 rw [hrow] at h1
 cases h1
 have hc:=I.stage L ho he hS hr
 obtain ⟨X,HGm,mn,mf,mget,hnn⟩:=I.met L hn0 hfl0 ho hanc hc hr
 generalize hmE:mergeA row.anc (M i).ps G=hm at X HGm mn mf mget hM
 have e1:=En_succ opsA.toList i ho
 rw [if_pos he] at e1
 have e2:=L.hsLen i (by omega)
 have nord:∀ kk y rw',opsA.toList[kk]? =some y→l[kk]? =some rw'→rdB y.op=true→¬ S kk→kk≠i→rw'.st≤c→anB bf i kk=false∧anB bf kk i=false:=fun kk y rw' hk hkr hkd hkS hne hst=>by
   refine ⟨?_,?_⟩
   · cases hb:anB bf i kk with
     | false=>rfl
     | true=>exact absurd (hr kk hb) hkS
   · cases hb:anB bf kk i with
     | false=>rfl
     | true=>
       obtain ⟨r2,k1,_,_,_,_,_,_,k2,_⟩:=L.od.row kk y hk
       rw [hkr] at k1
       cases k1
       have:=k2 i _ ho he hb
       omega
 have fin:∀ (G':H) (μ:Option Nat) (u:Value) (w':World) (env':Env),(M (i+1)).hs=(G',μ) :: (M i).hs→VR env' v u→HR w0 env' G' w'→Gn env hm w env' w'→HG hm G'→
     Steps P (lone (Ev.mk F a (.inRegion opsA (i :: rest) :: k)) cs w) (lone (Ev.mk F (a.put row.o.dst u) (.inRegion opsA rest :: k)) cs w')→
     (∀ kk y rw' b z e,opsA.toList[kk]? =some y→l[kk]? =some rw'→rdB y.op=true→kk≠i→wantV opsA.toList (tget (T kk)) y=some true→rdO (ev0 (T kk)) y.op=some b→anB bf i kk=false→anB bf kk i=false→rw'.st≤c→hm.get b=some z→env b=some e→b < hm.n→G'.get b=hm.get b)→
     ∃ c' G' tm' env' w' a',Iv P n0 N opsA.toList bf l T M w0 env0 h0 wst d0 (fun j=>S j∨j=i) c' G' tm' env' w' a'∧Steps P (lone (Ev.mk F a (.inRegion opsA (i :: rest) :: k)) cs w) (lone (Ev.mk F a' (.inRegion opsA rest :: k)) cs w'):=by
   intro G' μ u w' env' hhs v1 r1 g1 q1 s1 hsame
   obtain ⟨tm',t1,t2⟩:=I.newT L ho hS hr hp
   obtain ⟨t3,t4⟩:=Qcm t1 (I.ts.mono g1.le) v1
   have hgs:gs (M opsA.toList.length).hs (c+1)=some (G',μ):=by
     rw [L.gsAt (i:=i+1) (by omega) (by omega),hhs,show c+1=(M i).hs.length by omega,gs_head]
   refine ⟨c+1,G',tm',env',w',a.put row.o.dst u,I.effs L ho he hS hr hgs ((X.step r1 g1 q1).mono fun n y hq=>?_) (Gn.trans hf0 HGm I.gn g1) (HGm.trans q1) (by rw [←mn];exact q1.n) (fun j y hj hy hn hne=>?_) t3 t2 (t4.trans I.df) (fun kk y rw' b hk hkr hkd hkS hne hkw hkb hst=>?_),s1⟩
   · obtain ⟨j,h1,h2,h3⟩:=hq
     rcases h1 with h1 | rfl
     · refine ⟨⟨j,h1,h2,fun hm2=>h3 (hm2.mono (by omega))⟩,fun p hpm hpb hne=>?_⟩
       have e3:=hnn p hpm
       obtain ⟨_,_,_,e4,_⟩:=h2
       have:j=p.1:=by omega
       rw [hanc, ←this] at hpb
       exact h3 ⟨i,_,ho,he,hw,by omega,hpb⟩
     · obtain ⟨o2,h4,h5,_⟩:=h2
       rw [ho] at h4
       cases h4
       rw [fl_eff h5] at he
       cases he
   · rw [g1.old _ (by rw [mn];exact I.fln hj hy)]
     exact I.un j y hj hy hn
   · obtain ⟨_,_,_,g,m,v2,h2',k1,k2,_⟩:=L.loadAt hk hkr hkd hkw hkb
     have k3:=I.ld kk y rw' b hk hkr hkd hkS hkw hkb hst g m k1
     obtain ⟨⟨cl,tt,k4⟩,_⟩:=opV_load (h2:=g) hkd hkb k2
     rw [←k3] at k4
     obtain ⟨e,k5,_⟩:=I.x.hr.get _ _ k4
     have k6:=mget b _ e k4 trivial k5
     obtain ⟨n1,n2⟩:=nord kk y rw' hk hkr hkd hkS hne hst
     rw [hsame kk y rw' b _ e hk hkr hkd hne hkw hkb n1 n2 hst (k6.trans k4) k5 (by
       rw [mn]
       rcases Nat.lt_or_ge b G.n with h | h
       ·exact h
       ·rw [I.x.hr.fresh b h] at k5;cases k5),k6]
 have congr:∀ {f xs},Qbh row.o.op=some (f,xs)→ev0 (T i) f=ev0 tmS f∧lmap (ev0 (T i)) xs=lmap (ev0 tmS) xs:=fun {f xs} hcal=>by
   obtain ⟨cl,h1,h2,h3⟩:=calleeO_some hcal
   have hin:∀ x,x=f∨x∈xs→ev0 (T i) x=ev0 tmS x:=fun x hx=>I.agreeOp L ho hS hr (by
     rw [h1]
     simp only [Op.operands,Call.operands,h2]
     rcases hx with rfl | hx
     · simp
     · simp [←h3] at hx ⊢
       exact .inr hx)
   exact ⟨hin f (.inl rfl),Qda fun x hx=>hin x (.inr hx)⟩
 generalize hMM:M (i+1)=S' at hM
 cases hM with
 | full f xs v h' _ hcal hfu hgo=>
   rw [hmE] at hgo
   obtain ⟨c1,c2⟩:=congr hcal
   rw [c1,c2] at hgo
   have hv':oneO P go hm (ev0 tmS) row.o.op=some (v,h'):=by
     unfold oneO
     rw [hcal]
     show valO (go _)=_
     rw [hgo]
     rfl
   obtain ⟨u,w',env',s1,v1,r1,g1,q1⟩:=oneO_ok hg X.hr (ev0_ok I.ts) hv' F k cs opsA i rest ho' hw'
   refine fin h' none u w' env' (by rw [hMM]) v1 r1 g1 q1 s1 fun kk y rw' b z e hk hkr hkd hne hkw hkb n1 n2 hst hz hbe hlt=>?_
   rcases hfull hfu kk y hk (Ne.symm hne) hkd with h | h
   · rw [n1] at h;cases h
   · rw [n2] at h;cases h
 | part f xs v h' _ hcal hgo=>
   rw [hmE] at hgo
   obtain ⟨c1,c2⟩:=congr hcal
   rw [c1,c2] at hgo
   have hv':oneO P go (raise (kR (M i) row hm) hm) (ev0 tmS) row.o.op=some (v,h'):=by
     unfold oneO
     rw [hcal]
     show valO (go _)=_
     rw [hgo]
     rfl
   have hkk:hm.fl≤kR (M i) row hm∧kR (M i) row hm≤hm.n:=by
     unfold kR
     have a1:=L.kAt (i:=i) (by omega)
     have a2:=I.nn
     have a3:=I.hg.fl
     have a4:=X.hr.fl
     cases row.half with
     | false=>exact ⟨a4,Nat.le_refl _⟩
     | true=>
       refine ⟨?_,?_⟩
       ·show hm.fl≤kOf _
        omega
       ·show kOf _≤hm.n
        omega
   obtain ⟨u,w',env',s1,v1,r1,g1,q1⟩:=oneO_ok hg (X.hr.raise hkk.1 hkk.2) (ev0_ok I.ts) hv' F k cs opsA i rest ho' hw'
   obtain ⟨r2,g2,q2,same⟩:=X.hr.lower hkk.1 r1 g1 q1
   refine fin _ none u w' env' (by rw [hMM,hmE]) v1 r2 g2 q2 s1 fun kk y rw' b z e hk hkr hkd hne hkw hkb n1 n2 hst hz hbe hlt=>same b ?_
   unfold kR
   cases hh:row.half with
   | false=>exact hlt
   | true=>
     show b < kOf _
     rw [L.kAt (i:=i) (by omega)]
     rcases hhalf hh kk y rw' hk hkr (Ne.symm hne) hkd with h | h | h
     · rw [n1] at h;cases h
     · rw [n2] at h;cases h
     · obtain ⟨_,_,_,g,m,v2,h2',k1,k2,_⟩:=L.loadAt hk hkr hkd hkw hkb
       rw [h] at k1
       obtain ⟨⟨cl,tt,k4⟩,_⟩:=opV_load (h2:=g) hkd hkb k2
       exact L.old k1 k4
 | eff v h' _ hcal hfree hv=>
   rw [hmE] at hv
   have hv':oneO P go hm (ev0 tmS) row.o.op=some (v,h'):=by
     unfold oneO
     rw [hcal]
     show opV P hm (ev0 tmS) row.o.op=_
     rw [←opV_congr fun x hx=>I.agreeOp L ho hS hr hx]
     exact hv
   obtain ⟨u,w',env',s1,v1,r1,g1,q1⟩:=oneO_ok hg X.hr (ev0_ok I.ts) hv' F k cs opsA i rest ho' hw'
   refine fin h' _ u w' env' (by rw [hMM]) v1 r1 g1 q1 s1 fun kk y rw' b z e hk hkr hkd hne hkw hkb n1 n2 hst hz hbe hlt=>opV_mod he hv hlt ?_
   have hki:kk < opsA.toList.length:=(List.getElem?_eq_some_iff.1 hk).1
   obtain ⟨l1,l2,l3,_⟩:=L.loadAt hk hkr hkd hkw hkb
   rcases Nat.lt_or_ge kk i with h3 | h3
   · have:=L.lsMem l1 i (by omega) (by omega)
     rcases freeOf_mem hfree _ this with h4 | h4
     · rw [hanc] at h4
       simp only [n1] at h4
       cases h4
     · exact neO_ne h4
   · have h4:En opsA.toList i < En opsA.toList kk:=(En_lt ho he).2 (by omega)
     have h5:gs (M kk).hs (c+1)=some (h',modO (ev0 (T i)) row.o.op):=by
       rw [←L.gsAt (by omega) (by omega),L.gsAt (i:=i+1) (by omega) (by omega),hMM]
       show gs ((h',modO (ev0 (T i)) row.o.op) :: (M i).hs) (c+1)=_
       rw [show c+1=(M i).hs.length by omega,gs_head]
     have h6:=L.hsLen kk (by omega)
     unfold gs at h5
     rw [List.getElem?_reverse (by omega)] at h5
     exact neO_ne (freeMs_get l2 _ _ (by omega) h5)
 | float q v hf b he'=>rw [heff,he] at he';cases he'
 | load b g m v h' he'=>rw [heff,he] at he';cases he'
 | pure v h' he'=>rw [heff,he] at he';cases he'
end
end Go.Ev
namespace Go.Ev
open Go
set_option linter.unusedVariables false
set_option linter.unusedSimpArgs false
section
variable {P:Program} {go:Task→Option Out} {n0 N:Nat} {ops:List Oper} {bf:List Nat} {l:List Row} {T:Nat→TT V} {M:Nat→Ms} {w0:World} {env0:Env} {h0:H} {wst:World} {d0:List Deferred}
 {S:Nat→Prop} {c:Nat} {G:H} {tmS:TT V} {env:Env} {w:World} {a:Act}
theorem Iv.step (L:Lg P go n0 N ops bf l T M) (hg:SndV P w0 go) (hn0:n0=h0.n) (hfl0:h0.fl≤h0.n) (hf0:∀ x,h0.n≤x→env0 x=none) {opsA:Array Oper} (hA:opsA.toList=ops) (I:Iv P n0 N ops bf l T M w0 env0 h0 wst d0 S c G tmS env w a) {i:Nat} {o:Oper} (ho:ops[i]? =some o)
  (hS: ¬ S i) (hr:∀ j,anB bf i j=true→S j) (F:FS) (k:List Item) (cs:List Frame) (rest:List Nat):
  ∃ c' G' tm' env' w' a',Iv P n0 N ops bf l T M w0 env0 h0 wst d0 (fun j=>S j∨j=i) c' G' tm' env' w' a'∧Steps P (lone (Ev.mk F a (.inRegion opsA (i :: rest) :: k)) cs w) (lone (Ev.mk F a' (.inRegion opsA rest :: k)) cs w'):=by
 have hi:i < ops.length:=(List.getElem?_eq_some_iff.1 ho).1
 obtain ⟨row,hrow,rfl,hri,hanc,heff,hrd,hfl,hst1,hst2,hfull⟩:=L.od.row i o ho
 obtain ⟨h,m,rst,hh,h2 | h2⟩:=Qbo (L.st i row hrow)
 ·exact I.pass L hA ho hrow hS hr h2.1 F k cs rest
 ·obtain ⟨hw,v,d,hp⟩:=h2
  cases he:effB row.o.op with
  | true=>
    obtain rfl:=I.head L hi (I.stage L ho he hS hr) hh
    exact I.effD L hg hn0 hfl0 hf0 hA ho hrow he hS hr hw d hp F k cs rest
  | false=>
    generalize M (i+1)=S' at d
    cases d with
    | full f xs v h' he'=>rw [heff,he] at he';cases he'
    | part f xs v h' he'=>rw [heff,he] at he';cases he'
    | eff v h' he'=>rw [heff,he] at he';cases he'
    | float q v hf b he' hq hv hb=>
      rw [hfl] at hq
      split at hq
      ·rename_i hfb
       cases hq
       exact I.fresh L hn0 hfl0 hA ho hfb hS hr hw hv hb hp F k cs rest
      ·cases hq
    | load b g m v h' he' hq hr' hb hm hgl hv=>
      rw [hrd] at hr'
      obtain ⟨_,hfb⟩:=rd_eff hr'
      have hstle:row.st≤c:=by
       rcases hst2 with h | ⟨j,y,k1,k2,k3,k4⟩
       · omega
       · have:=(I.eff j y k1 k2).1 (hr j k3);omega
      have hstE:row.st≤En ops i:=by
       rcases hst2 with h | ⟨j,y,k1,k2,k3,k4⟩
       · omega
       · have:=(En_lt k1 k2).2 (L.od.lt i _ ho j k3);omega
      have e2:=L.hsLen i (by omega)
      rw [gs_lget (by omega), ←L.gsAt (by omega) hstE] at hgl
      have:=I.ld i _ row b ho hrow hr' hS hw hb hstle g m hgl
      exact I.calm L hg hf0 hA ho he hfb hS hr hw ((opV_load hr' hb hv).2 this) hp F k cs rest
    | pure v h' he' hq hr' hv=>
      have hfb:flB row.o.op=false:=by
       cases hx:flB row.o.op with
       | false=>rfl
       | true=>rw [hfl,if_pos hx] at hq;cases hq
      exact I.calm L hg hf0 hA ho he hfb hS hr hw (opV_pure hfb he (by rw [←hrd];exact hr') hv G) hp F k cs rest
end
def cnt (b:Array Bool):Nat→Nat
 | 0=>0
 | n+1=>cnt b n+if b.getD n true=true then 0 else 1
theorem getD_set (b:Array Bool) (i j:Nat) (d:Bool):(b.setIfInBounds i true).getD j d=if i=j∧i < b.size then true else b.getD j d:=by
 simp only [Array.getD_eq_getD_getElem?, Array.getElem?_setIfInBounds]
 by_cases h:i=j
 ·subst h
  by_cases h2:i < b.size
  ·simp [h2]
  ·simp [h2]
 ·simp [h]
theorem cnt_far (b:Array Bool) (i:Nat):∀ n,n≤i→cnt (b.setIfInBounds i true) n=cnt b n
 | 0,_=>rfl
 | n+1,h=>by
   unfold cnt
   rw [cnt_far b i n (by omega),getD_set,if_neg (show ¬ (i=n∧i < b.size) by omega)]
theorem cnt_set (b:Array Bool) {i:Nat} (hi:b.getD i true=false):∀ n,i < n→cnt (b.setIfInBounds i true) n+1=cnt b n
 | 0,h=>by omega
 | n+1,h=>by
   have hs:i < b.size:=by
    rcases Nat.lt_or_ge i b.size with h1 | h1
    ·exact h1
    ·simp [Array.getD,Nat.not_lt.2 h1] at hi
   unfold cnt
   by_cases hn:i=n
   ·subst hn
    rw [cnt_far b i i (Nat.le_refl _),getD_set,if_pos (show i=i∧i < b.size from ⟨rfl,hs⟩),hi]
    simp
   ·have:=cnt_set b hi n (by omega)
    rw [getD_set,if_neg (show ¬ (i=n∧i < b.size) by omega)]
    omega
theorem cnt_zero (b:Array Bool):∀ n,cnt b n=0→∀ i,i < n→b.getD i true=true
 | 0,_,i,h=>by omega
 | n+1,h,i,hi=>by
   unfold cnt at h
   by_cases hn:i=n
   ·subst hn
    by_cases hb:b.getD i true=true
    ·exact hb
    ·rw [if_neg hb] at h;omega
   ·exact cnt_zero b n (by omega) i (by omega)
theorem cnt_le (b:Array Bool):∀ n,cnt b n≤n
 | 0=>Nat.le_refl _
 | n+1=>by
   have:=cnt_le b n
   unfold cnt
   split <;> omega
theorem getD_true {b:Array Bool} {i:Nat} (hi:i < b.size):b.getD i true=b.getD i false:=by
 simp [Array.getD,hi]
section
variable {P:Program} {go:Task→Option Out} {n0 N:Nat} {bf:List Nat} {l:List Row} {T:Nat→TT V} {M:Nat→Ms} {w0:World} {env0:Env} {h0:H} {wst:World} {d0:List Deferred} {opsA:Array Oper}
theorem ready_mem {b:Array Bool} (hb:b.size=opsA.size) {i:Nat} {o:Oper} (ho:opsA[i]? =some o):i∈Region.ready .any opsA b↔b.getD i false=false∧∀ e∈o.after.toList,Region.binds .any e=true→b.getD e.on false=true:=by
 have hi:i < opsA.size:=(Array.getElem?_eq_some_iff.1 ho).1
 unfold Region.ready
 rw [List.mem_filter,ho]
 simp only [List.mem_range,hi,true_and,Option.map_some,Option.getD_some,Bool.and_eq_true,Bool.not_eq_true',getD_true (show i < b.size by omega),Array.all_eq_true']
 refine and_congr_right fun _=>⟨fun h e he hb=>?_,fun h e he=>?_⟩
 ·have:=h e (by simpa using he)
  rw [hb] at this
  simpa using this
 ·cases hx:Region.binds .any e with
  | false=>rfl
  | true=>rw [h e (by simpa using he) hx];rfl
theorem sched_ok (L:Lg P go n0 N opsA.toList bf l T M) (hg:SndV P w0 go) (hn0:n0=h0.n) (hfl0:h0.fl≤h0.n) (hf0:∀ x,h0.n≤x→env0 x=none) (F:FS) (k:List Item) (cs:List Frame):
   ∀ (fuel t:Nat) (b:Array Bool) (c:Nat) (G:H) (tmS:TT V) (env:Env) (w:World) (a:Act),b.size=opsA.size→cnt b opsA.size≤fuel→Iv P n0 N opsA.toList bf l T M w0 env0 h0 wst d0 (fun i=>b.getD i false=true) c G tmS env w a→
   ∃ S c' G' tm' env' w' a',(∀ i,i < opsA.size→S i)∧Iv P n0 N opsA.toList bf l T M w0 env0 h0 wst d0 S c' G' tm' env' w' a'∧Steps P (lone (mk F a (.inRegion opsA (Region.linearise.go .any opsA fuel t b []) :: k)) cs w) (lone (mk F a' (.inRegion opsA [] :: k)) cs w')
 | 0,t,b,c,G,tmS,env,w,a,hb,hc,I=>by
   refine ⟨_,c,G,tmS,env,w,a,fun i hi=>?_,I,Steps.refl _ _⟩
   have:=cnt_zero b opsA.size (by omega) i hi
   rw [getD_true (by omega)] at this
   exact this
 | fuel+1,t,b,c,G,tmS,env,w,a,hb,hc,I=>by
   simp only [Region.linearise.go]
   change ∃ S c' G' tm' env' w' a',(∀ i,i < opsA.size→S i)∧Iv P n0 N opsA.toList bf l T M w0 env0 h0 wst d0 S c' G' tm' env' w' a'∧Steps P (lone (mk F a (.inRegion opsA (match (Region.ready .any opsA b)[t % (Region.ready .any opsA b).length]? with
     | some i=>Region.linearise.go .any opsA fuel (t / (Region.ready .any opsA b).length) (b.setIfInBounds i true) [i]
     | none=>[].reverse) :: k)) cs w) (lone (mk F a' (.inRegion opsA [] :: k)) cs w')
   cases hx:(Region.ready .any opsA b)[t % (Region.ready .any opsA b).length]? with
   | none=>
     have hnil:Region.ready .any opsA b=[]:=by
       cases hr:Region.ready .any opsA b with
       | nil=>rfl
       | cons x xs=>
         rw [hr] at hx
         have hlt:t % (x :: xs).length < (x :: xs).length:=Nat.mod_lt _ (by simp)
         simp at hx
         simp at hlt
         omega
     have all:∀ i,i < opsA.size→b.getD i false=true:=fun i=>by
       induction i using Nat.strongRecOn with
       | ind i ih=>
         intro hi
         have ho:opsA[i]? =some opsA[i]:=Array.getElem?_eq_getElem hi
         cases hv:b.getD i false with
         | true=>rfl
         | false=>
           have:i∈Region.ready .any opsA b:=(ready_mem hb ho).2 ⟨hv,fun e he hbe=>by
            have ho2:opsA.toList[i]? =some opsA[i]:=by simp [ho]
            have h1:=L.od.lt i _ ho2 e.on (L.od.edge i _ ho2 e he hbe)
            exact ih e.on h1 (by omega)⟩
           rw [hnil] at this
           cases this
     exact ⟨_,c,G,tmS,env,w,a,all,I,Steps.refl _ _⟩
   | some i=>
     have hmem:=List.mem_of_getElem? hx
     have hi:i < opsA.size:=by
       unfold Region.ready at hmem
       have:=(List.mem_filter.1 hmem).1
       simpa using this
     have ho:opsA[i]? =some opsA[i]:=Array.getElem?_eq_getElem hi
     obtain ⟨h1,h2⟩:=(ready_mem hb ho).1 hmem
     simp only []
     rw [linearise_go_acc,List.reverse_singleton,List.singleton_append]
     have ho2:opsA.toList[i]? =some opsA[i]:=by simp [ho]
     obtain ⟨c1,G1,tm1,env1,w1,a1,I1,s1⟩:=I.step L hg hn0 hfl0 hf0 rfl ho2 (by rw [h1];simp) (fun j hj=>by
       obtain ⟨e,he,hbe,hej | hej⟩:=L.od.down i _ ho2 j hj
       · rw [←hej];exact h2 e he hbe
       · exact I.down e.on (h2 e he hbe) j hej) F k cs (Region.linearise.go .any opsA fuel (t / (Region.ready .any opsA b).length) (b.setIfInBounds i true) [])
     have hSS:(fun j=>b.getD j false=true∨j=i)=(fun j=>(b.setIfInBounds i true).getD j false=true):=by
       funext j
       rw [getD_set]
       by_cases hj:i=j
       · subst hj;rw [if_pos ⟨rfl,by omega⟩];simp
       · rw [if_neg fun h=>hj h.1]
         simp only [eq_iff_iff]
         exact ⟨fun h=>h.elim id fun h=>absurd h.symm hj,.inl⟩
     rw [hSS] at I1
     have hcs:=cnt_set b (i:=i) (by rw [getD_true (by omega)];exact h1) opsA.size hi
     obtain ⟨S,c',G',tm',env',w',a',k1,k2,k3⟩:=sched_ok L hg hn0 hfl0 hf0 F k cs fuel (t / (Region.ready .any opsA b).length) (b.setIfInBounds i true) c1 G1 tm1 env1 w1 a1 (by simpa using hb) (by omega) I1
     exact ⟨S,c',G',tm',env',w',a',k1,k2,s1.trans k3⟩
end
theorem drawOK {P:Program} {w0:World} (hm:P.follows .mixedOrders=true):DrawOK P w0:=by
 intro go hg N id ops tm ds h e tm' ds' h' hv env w a F k cs hr ht hd
 unfold runDraw at hv
 split at hv
 ·rename_i l hl
  obtain ⟨bf,od⟩:=drawO_ok hl
  unfold endRows at hv
  split at hv
  ·rename_i tmF hE mE hsE lsE psE hrun
   cases hv
   obtain ⟨T,M,t0,m0,tE,mE2,st⟩:=runRows_log hrun
   rw [od.len] at tE mE2
   have L:Lg P go h.n N ops.toList bf l T M:=⟨od,st,by rw [m0];exact ⟨rfl,rfl,rfl⟩,⟨_,none,by rw [m0],rfl,fun b y hb=>by
    obtain ⟨e,h1,_⟩:=hr.get b y hb
    rcases Nat.lt_or_ge b h.n with h2 | h2
    ·exact Nat.lt_of_lt_of_le h2 (Nat.le_add_right _ _)
    ·rw [hr.fresh b h2] at h1;cases h1⟩⟩
   have g0:gs (M ops.toList.length).hs 0=some (⟨h.t,h.n+flN ops.toList,h.fl⟩,none):=by
    rw [L.gsAt (i:=0) (Nat.zero_le _) (Nat.zero_le _),m0]
    rfl
   have hr1:HR w0 env h w.drew:=HR.heap (w:=w) (w':=w.drew) rfl rfl rfl rfl hr
   have hr2:HR w0 env ⟨h.t,h.n+flN ops.toList,h.fl⟩ w.drew:=⟨fun b hb=>hr1.fresh b (by have:h.n+flN ops.toList≤b:=hb;omega),hr1.lt,hr1.get,hr1.inj,by have:=hr1.fl;show h.fl≤h.n+flN ops.toList;omega,hr1.bel,hr1.low⟩
   have I0:Iv P h.n N ops.toList bf l T M w0 env h w a.defers (fun i=>(Array.replicate ops.size false).getD i false=true) 0 ⟨h.t,h.n+flN ops.toList,h.fl⟩ tm env w.drew a:=by
    have no:∀ i,¬ ((Array.replicate ops.size false).getD i false=true):=fun i hi=>by
     simp only [Array.getD_eq_getD_getElem?, Array.getElem?_replicate] at hi
     split at hi <;> cases hi
    exact ⟨fun i hi=>absurd hi (no i),fun i hi=>absurd hi (no i),fun j o _ _=>⟨fun hi=>absurd hi (no j),fun hi=>absurd hi (Nat.not_lt_zero _)⟩,Nat.zero_le _,⟨none,g0⟩,
     ⟨hr2,fun n y ⟨i,hi,_⟩=>absurd hi (no i),fun n y _ _ _ _ ⟨i,hi,_⟩=>absurd hi (no i)⟩,Gn.heap rfl rfl rfl rfl,⟨rfl,Nat.le_add_right _ _,fun b _=>rfl,fun b z _ hb hz=>⟨z,hb,hz⟩⟩,Nat.le_refl _,
     fun i o _ _ _=>hr.fresh _ (Nat.le_add_right _ _),ht,fun t=>by
      rw [tW_eq L (i:=0) (fun j o _ _=>⟨fun hi=>absurd hi (no j),fun hi=>absurd hi (Nat.not_lt_zero _)⟩) _ (Nat.le_refl _),Nat.zero_min,t0],rfl,
     fun i o row b _ _ _ _ _ _ hst g μ hgs=>by
      rw [Nat.le_zero.1 hst,g0] at hgs
      cases hgs
      rfl⟩
   obtain ⟨S,c,G,tmS,env1,w1,a1,hall,I,s1⟩:=sched_ok L hg rfl hr.fl hr.fresh F k cs ops.size (w.tape w.drawn (.order F.fn id)) (Array.replicate ops.size false) 0 _ tm env w.drew a (by simp) (cnt_le _ _) I0
   have hlen:ops.toList.length=ops.size:=by simp
   have hc:c=En ops.toList ops.toList.length:=by
    rcases Nat.lt_or_ge c (En ops.toList ops.toList.length) with h1 | h1
    ·obtain ⟨j,o,h2,h3,h4,h5⟩:=En_find _ _ _ h1
     have:=(I.eff j o h3 h4).1 (hall j (by omega))
     omega
    ·have:=I.cle;omega
   have hG:hE=G:=by
    have h1:=L.hsLen ops.toList.length (Nat.le_refl _)
    rw [mE2] at h1
    simp only [List.length_cons] at h1
    obtain ⟨μ,h2⟩:=I.g
    rw [mE2,show c=hsE.length by omega] at h2
    simp only [gs_head] at h2
    cases h2
    rfl
   subst hG
   obtain ⟨ps1,ps2⟩:=L.psOk ops.toList.length (Nat.le_refl _)
   rw [mE2] at ps1 ps2
   simp only at ps1 ps2
   have hnn:∀ p∈psE,p.2.1=h.n+p.1:=fun p hp=>by
    obtain ⟨_,⟨_,_,_,h,_⟩,_⟩:=ps1 p hp
    exact h
   obtain ⟨x1,n1,f1,o1⟩:=I.x.mergeL psE (fun p hp=>by
    obtain ⟨h1,h2,h3⟩:=ps1 p hp
    exact ⟨p.1,hall _ (by omega),h2,by rw [hc];exact h3⟩) (ps2.imp_of_mem fun {p q} hp hq h=>by rw [hnn p hp,hnn q hq];omega)
   have ot:∀ b,b < h.n→(mergeL psE hE).get b=hE.get b:=fun b hb=>o1 b fun p hp=>by rw [hnn p hp];omega
   have hgE:HG h (mergeL psE hE):=⟨f1.trans I.hg.fl,by rw [n1];exact I.hg.n,fun b hb=>by
     rw [ot b (by have:=hr.fl;omega)];exact I.hg.low b hb,fun b z hb hz hl=>by
     rw [ot b hb] at hz;exact I.hg.live b z hb hz hl⟩
   have tt:TR env1 tm' N a1.tmps:=⟨I.ts.size,fun t=>by
    have h1:=I.ts.get t
    rw [I.tm,tW_eq L (i:=ops.toList.length) (fun j o hj _=>⟨fun _=>(List.getElem?_eq_some_iff.1 hj).1,fun h=>hall j (by omega)⟩) _ (Nat.le_refl _),Nat.min_self,tE] at h1
    exact h1⟩
   refine ⟨env1,w1,a1,x1.hr,I.gn,hgE,tt,by rw [I.df];exact hd.mono I.gn.le,?_⟩
   have s0:=st_draw (P:=P) (F:=F) (a:=a) (k:=k) (cs:=cs) (w:=w) (id:=id) (ops:=ops)
   have hsch:Region.schedule (P.follows .mixedOrders) ops (w.tape w.drawn (.order F.fn id))=Region.linearise.go .any ops ops.size (w.tape w.drawn (.order F.fn id)) (Array.replicate ops.size false) []:=by
    simp only [Region.schedule,hm,Bool.true_or,if_true]
    rfl
   rw [hsch] at s0
   exact (Steps.head s0 s1).trans (.one st_region_end)
  ·cases hv
 ·cases hv
end Go.Ev
namespace Go.Ev
open Go
end Go.Ev
namespace Go.Ev
open Go
set_option linter.unusedVariables false
set_option linter.unusedSimpArgs false
section
variable {P:Program} {nat:Nats} {go go':Task→Option Out}
def LeG (go go':Task→Option Out):Prop:=∀ t o,go t=some o→go' t=some o
theorem valO_mono (h:LeG go go') {t:Task} {p:V × H} (hp:valO (go t)=some p):valO (go' t)=some p:=by
 have e:=valO_some hp
 rw [h _ _ e]
 rw [e] at hp
 exact hp
theorem oneO_mono (h:LeG go go') {m:H} {r:Operand→V} {o:Op} {p:V × H} (hp:oneO P go m r o=some p):oneO P go' m r o=some p:=by
 unfold oneO at hp ⊢
 unfold oneV' at hp ⊢
 split at hp
 ·exact valO_mono h hp
 ·exact hp
theorem runOp_mono (h:LeG go go') {N:Nat} {ops:List Oper} {o:Oper} {k k':TT V→H→Option (TT V × H)} (hk:∀ tm m p,k tm m=some p→k' tm m=some p) {tm:TT V} {m:H} {p:TT V × H}
  (hp:runOp P go N ops o k tm m=some p):runOp P go' N ops o k' tm m=some p:=by
 unfold runOp at hp ⊢
 split at hp
 ·rename_i hw
  try rw [hw]
  try simp only []
  split at hp
  · rename_i q tm' h' ho
    have:Qdl N tm m o.dst (oneO P go' m (ev0 tm) o.op)=some (tm',h'):=by
     unfold Qdl at ho ⊢
     split at ho
     ·rename_i v h2 h1
      rw [oneO_mono h h1]
      exact ho
     ·cases ho
    rw [this]
    exact hk _ _ _ hp
  · cases hp
 ·rename_i hw
  try rw [hw]
  try simp only []
  split at hp
  · rename_i tm' ht
    try rw [ht]
    exact hk _ _ _ hp
  · cases hp
 ·cases hp
theorem runOps_mono (h:LeG go go') {N:Nat} {ops:List Oper}:∀ {l:List Oper} {tm:TT V} {m:H} {p:TT V × H},Qdd P go N ops l tm m=some p→Qdd P go' N ops l tm m=some p
 | [],_,_,_,hp=>hp
 | o :: l,tm,m,p,hp=>by
   have e:∀ g,Qdd P g N ops (o :: l)=runOp P g N ops o (Qdd P g N ops l):=fun _=>rfl
   rw [e] at hp ⊢
   exact runOp_mono h (fun _ _ _ hx=>runOps_mono h hx) hp
theorem oneD_mono (h:LeG go go') {n0:Nat} {r:Operand→V} {row:Row} {S:Ms} {m:H} {p:V × Ms} (hp:oneD P go n0 r row S m=some p):oneD P go' n0 r row S m=some p:=by
 unfold oneD at hp ⊢
 split at hp
 ·rename_i he
  try rw [he]
  try simp only []
  unfold effE effD at hp ⊢
  split at hp
  ·rename_i f xs hc
   try rw [hc]
   try simp only []
   split at hp
   ·rename_i hf
    try rw [hf]
    try simp only []
    unfold addH at hp ⊢
    split at hp
    ·rename_i v m' hv
     rw [valO_mono h hv]
     exact hp
    ·cases hp
   ·rename_i hf
    try rw [hf]
    try simp only []
    unfold addH at hp ⊢
    split at hp
    ·rename_i v m' hv
     have:lower (mergeA row.anc S.ps m).fl (valO (go' (.call (r f) (lmap r xs) (raise (kR ⟨S.hs,S.ls,restA row.anc S.ps⟩ row (mergeA row.anc S.ps m)) (mergeA row.anc S.ps m)))))=some (v,m'):=by
      unfold lower at hv ⊢
      split at hv
      ·rename_i v2 m2 h2
       rw [valO_mono h h2]
       exact hv
      ·cases hv
     rw [this]
     exact hp
    ·cases hp
  ·rename_i hc
   try rw [hc]
   try simp only []
   exact hp
 ·rename_i he
  try rw [he]
  try simp only []
  exact hp
theorem runRow_mono (h:LeG go go') {n0 N:Nat} {ops:List Oper} {row:Row} {k k':TT V→Ms→Option (TT V × Ms)} (hk:∀ tm m p,k tm m=some p→k' tm m=some p) {tm:TT V} {S:Ms} {p:TT V × Ms}
  (hp:Qcr P go n0 N ops row k tm S=some p):Qcr P go' n0 N ops row k' tm S=some p:=by
 unfold Qcr at hp ⊢
 split at hp
 ·cases hp
 ·rename_i m q rest hS
  try rw [hS]
  try simp only []
  split at hp
  · rename_i hw
    try rw [hw]
    try simp only []
    split at hp
    ·rename_i v S' ho
     try rw [oneD_mono h ho]
     try simp only []
     split at hp
     ·rename_i tm' ht
      try rw [ht]
      exact hk _ _ _ hp
     ·cases hp
    ·cases hp
  · rename_i hw
    try rw [hw]
    try simp only []
    split at hp
    ·rename_i tm' ht
     try rw [ht]
     exact hk _ _ _ hp
    ·cases hp
  · cases hp
theorem runRows_mono (h:LeG go go') {n0 N:Nat} {ops:List Oper}:∀ {l:List Row} {tm:TT V} {S:Ms} {p:TT V × Ms},Qcp P go n0 N ops l tm S=some p→Qcp P go' n0 N ops l tm S=some p
 | [],_,_,_,hp=>hp
 | o :: l,tm,m,p,hp=>by
   have e:∀ g,Qcp P g n0 N ops (o :: l)=Qcr P g n0 N ops o (Qcp P g n0 N ops l):=fun _=>rfl
   rw [e] at hp ⊢
   exact runRow_mono h (fun _ _ _ hx=>runRows_mono h hx) hp
theorem runRegion_mono (h:LeG go go') {N:Nat} {ops:Array Oper} {draw:Bool} {tm:TT V} {ds:List D} {m:H} {o:Out} (hp:runRegion P go N ops draw tm ds m=some o):runRegion P go' N ops draw tm ds m=some o:=by
 unfold runRegion at hp ⊢
 cases draw with
 | false=>
   simp only [] at hp ⊢
   unfold endOps at hp ⊢
   split at hp
   ·rename_i tm' m' hr
    rw [runOps_mono h hr]
    exact hp
   ·cases hp
 | true=>
   simp only [] at hp ⊢
   unfold runDraw at hp ⊢
   split at hp
   ·rename_i l hl
    try rw [hl]
    try simp only []
    unfold endRows at hp ⊢
    split at hp
    ·rename_i tm' m' x1 x2 x3 x4 hr
     rw [runRows_mono h hr]
     exact hp
    ·cases hp
   ·cases hp
theorem seq_mono (h:LeG go go') {ro:Option Nat} {N:Nat} {y:Code} {t:Task} {o:Out} (hp:sSeq go ro N y (go t)=some o):sSeq go' ro N y (go' t)=some o:=by
 cases hx:go t with
 | none=>rw [hx] at hp;cases hp
 | some x=>
   rw [hx] at hp
   rw [h _ _ hx]
   cases x with
   | val v m=>exact hp
   | ex e tm ds m=>cases e with
     | normal=>exact h _ _ hp
     | exit i=>exact hp
     | ret=>exact hp
theorem block_mono (h:LeG go go') {id:Nat} {t:Task} {o:Out} (hp:sBlock id (go t)=some o):sBlock id (go' t)=some o:=by
 cases hx:go t with
 | none=>rw [hx] at hp;cases hp
 | some x=>rw [hx] at hp;rw [h _ _ hx];exact hp
theorem loop_mono (h:LeG go go') {ro:Option Nat} {N:Nat} {c:Code} {t:Task} {o:Out} (hp:sLoop go ro N c (go t)=some o):sLoop go' ro N c (go' t)=some o:=by
 cases hx:go t with
 | none=>rw [hx] at hp;cases hp
 | some x=>
   rw [hx] at hp
   rw [h _ _ hx]
   cases x with
   | val v m=>exact hp
   | ex e tm ds m=>cases e with
     | normal=>exact h _ _ hp
     | exit i=>exact hp
     | ret=>exact hp
theorem end_mono (h:LeG go go') {l:Nat} {tm:TT V} {ds:List D} {t:Task} {o:Out} (hp:sEnd l tm ds (go t)=some o):sEnd l tm ds (go' t)=some o:=by
 cases hx:go t with
 | none=>rw [hx] at hp;cases hp
 | some x=>rw [hx] at hp;rw [h _ _ hx];exact hp
theorem range1_mono (h:LeG go go') {N:Nat} {f:V} {ps:List Nat} {asg body:Code} {tm:TT V} {ds:List D} {d:Nat} {m:H} {o:Out} (hp:sRange1 go N f ps asg body tm ds d m=some o):sRange1 go' N f ps asg body tm ds d m=some o:=end_mono h hp
theorem range_mono (h:LeG go go') {N:Nat} {f:V} {ps:List Nat} {asg body:Code} {tm:TT V} {ds:List D} {m:H} {ro:Option Nat} {o:Out} (hp:sRange go N f ps asg body tm ds m ro=some o):sRange go' N f ps asg body tm ds m ro=some o:=by
 cases ro with
 | none=>exact range1_mono h hp
 | some l=>
   unfold sRange sRange0 at hp ⊢
   simp only [] at hp ⊢
   split at hp
   ·rename_i lp hl
    try rw [hl]
    exact range1_mono h hp
   ·cases hp
theorem code_mono (h:LeG go go') {ro:Option Nat} {N:Nat} {c:Code} {tm:TT V} {ds:List D} {m:H} {o:Out} (hp:sCode P go ro N c tm ds m=some o):sCode P go' ro N c tm ds m=some o:=by
 unfold sCode at hp ⊢
 cases c with
 | skip=>exact hp
 | label _=>exact hp
 | seq x y=>exact seq_mono h hp
 | cond c x y=>
   simp only [] at hp ⊢
   unfold sCond at hp ⊢
   split at hp
   ·rename_i hc;try rw [hc]
    exact h _ _ hp
   ·rename_i hc;try rw [hc]
    exact h _ _ hp
   ·cases hp
 | block id c=>exact block_mono h hp
 | loop c=>exact loop_mono h hp
 | scope c=>exact h _ _ hp
 | exit id=>exact hp
 | ret=>exact hp
 | region i ops d=>exact runRegion_mono h hp
 | rangeFunc f ps a b=>exact range_mono h hp
 | _=>cases hp
theorem body_mono (h:LeG go go') {rs:List ResultVar} {t:Task} {o:Out} (hp:sBody P rs (go t)=some o):sBody P rs (go' t)=some o:=by
 cases hx:go t with
 | none=>rw [hx] at hp;cases hp
 | some x=>rw [hx] at hp;rw [h _ _ hx];exact hp
theorem fn_mono (h:LeG go go') {f:Nat} {xs:List V} {m:H} {q:Option NatF} {o:Out} (hp:sFn P go f xs m q=some o):sFn P go' f xs m q=some o:=by
 unfold sFn at hp ⊢
 cases q with
 | some F=>exact hp
 | none=>
   simp only [] at hp ⊢
   unfold sFn1 at hp ⊢
   split at hp
   ·rename_i fn hf
    try rw [hf]
    try simp only []
    cases hn:numO fn with
    | true=>rw [hn] at hp;cases hp
    | false=>
      rw [hn] at hp
      simp only [] at hp ⊢
      unfold sFn2 at hp ⊢
      split at hp
      ·rename_i c hc
       try rw [hc]
       exact body_mono h hp
      ·cases hp
   ·cases hp
theorem round2_mono (h:LeG go go') {l:Nat} {t:Task} {o:Out} (hp:sRound2 l (go t)=some o):sRound2 l (go' t)=some o:=by
 cases hx:go t with
 | none=>rw [hx] at hp;cases hp
 | some x=>rw [hx] at hp;rw [h _ _ hx];exact hp
theorem round0_mono (h:LeG go go') {l N:Nat} {body:Code} {t:Task} {o:Out} (hp:sRound0 go l N body (go t)=some o):sRound0 go' l N body (go' t)=some o:=by
 cases hx:go t with
 | none=>rw [hx] at hp;cases hp
 | some x=>
   rw [hx] at hp
   rw [h _ _ hx]
   unfold sRound0 at hp ⊢
   split at hp
   ·rename_i tm m he
    cases he
    try simp only []
    unfold sRound1 at hp ⊢
    split at hp
    ·rename_i lp hl
     try rw [hl]
     try simp only []
     split at hp
     ·rename_i hc
      rw [if_pos hc]
      exact round2_mono h hp
     ·cases hp
    ·cases hp
   ·cases hp
theorem yield_mono (h:LeG go go') {l:Nat} {args:List V} {m:H} {b:Option Blk} {o:Out} (hp:sYield go l args m b=some o):sYield go' l args m b=some o:=by
 unfold sYield at hp ⊢
 split at hp
 ·unfold sYield2 at hp ⊢
  split at hp
  ·rename_i tm ht
   try rw [ht]
   exact round0_mono h hp
  ·cases hp
 ·cases hp
theorem sStep_mono (h:LeG go go'):LeG (sStep P nat go) (sStep P nat go'):=by
 intro t o hp
 cases t with
 | code ro N c tm ds m=>exact code_mono h hp
 | call v args m=>
   show sCall P nat go' v args m=some o
   have hp:sCall P nat go v args m=some o:=hp
   unfold sCall at hp ⊢
   split at hp
   ·exact fn_mono h hp
   ·exact yield_mono h hp
   ·cases hp
theorem ev_succ (n:Nat):ev P nat (n+1)=sStep P nat (ev P nat n):=rfl
theorem ev_le1:∀ n,LeG (ev P nat n) (ev P nat (n+1))
 | 0=>fun t o h=>by cases h
 | n+1=>by
   rw [ev_succ (n:=n),ev_succ (n:=n+1)]
   exact sStep_mono (ev_le1 n)
theorem ev_le {n m:Nat} (h:n≤m):LeG (ev P nat n) (ev P nat m):=by
 induction h with
 | refl=>exact fun _ _ x=>x
 | step _ ih=>exact fun t o x=>ev_le1 _ _ _ (ih t o x)
end
def Run (P:Program) (nat:Nats) (t:Task) (o:Out):Prop:=∃ n,ev P nat n t=some o
section
variable {P:Program} {nat:Nats}
theorem Run.step {t:Task} {o:Out} {n:Nat} (h:sStep P nat (ev P nat n) t=some o):Run P nat t o:=⟨n+1,h⟩
theorem Run.at2 {t u:Task} {a b:Out} (h:Run P nat t a) (k:Run P nat u b):∃ n,ev P nat n t=some a∧ev P nat n u=some b:=by
 obtain ⟨n,h⟩:=h
 obtain ⟨m,k⟩:=k
 exact ⟨max n m,ev_le (Nat.le_max_left n m) _ _ h,ev_le (Nat.le_max_right n m) _ _ k⟩
end
end Go.Ev
namespace Go.Ev
open Go
set_option linter.unusedVariables false
set_option linter.unusedSimpArgs false
abbrev AL:=List (Nat × V)
noncomputable def lk (al:AL) (t:Nat):Option V:=List.rec none (fun p _ ih=>Prod.rec (fun k v=>Bool.rec ih (some v) (Nat.beq k t)) p) al
def Kn (tm:TT V) (al:AL):Prop:=∀ t v,lk al t=some v→tget tm t=v
theorem lk_cons (k:Nat) (v:V) (al:AL) (t:Nat):lk ((k,v) :: al) t=if k=t then some v else lk al t:=by
 show Bool.rec (motive:=fun _=>Option V) (lk al t) (some v) (Nat.beq k t)=_
 by_cases h:k=t
 ·subst h;rw [if_pos rfl,Nat.beq_refl]
 ·rw [if_neg h]
  cases hb:Nat.beq k t with
  | false=>rfl
  | true=>exact absurd (Nat.eq_of_beq_eq_true hb) h
theorem Kn.nil (tm:TT V):Kn tm []:=fun _ _ h=>by cases h
theorem Kn.set {tm:TT V} {al:AL} (h:Kn tm al) (d:Nat) (v:V):Kn (tm.set d v) ((d,v) :: al):=fun t x hx=>by
 rw [lk_cons] at hx
 rw [tget_set]
 by_cases e:d=t
 ·rw [if_pos e] at hx;rw [if_pos e.symm];exact Option.some.inj hx
 ·rw [if_neg e] at hx;rw [if_neg (Ne.symm e)];exact h t x hx
def SubL (al:AL):AL→Prop
 | []=>True
 | (t,v) :: r=>lk al t=some v∧SubL al r
theorem SubL.get {al:AL}:∀ {al':AL},SubL al al'→∀ t v,lk al' t=some v→lk al t=some v
 | [],_,t,v,h=>by cases h
 | (k,x) :: r,⟨h1,h2⟩,t,v,h=>by
   rw [lk_cons] at h
   by_cases e:k=t
   · rw [if_pos e] at h;subst e;rw [h1];exact h
   · rw [if_neg e] at h;exact h2.get t v h
theorem Kn.sub {tm:TT V} {al al':AL} (h:Kn tm al) (hs:SubL al al'):Kn tm al':=fun t v hv=>h t v (hs.get t v hv)
noncomputable def cV:Value→Option V
 | .int k n=>some (.i k n)
 | .bool x=>some (.b x)
 | .string s=>some (.s s.data.toList)
 | .slice none 0 0=>some .sn
 | .pointer none=>some .p0
 | .nilFunc=>some .nf
 | .nilIface=>some .ni
 | v=>some (ofC v)
theorem cV_eq (v:Value):cV v=some (ofC v):=by
 unfold cV
 split <;> first | rfl | simp only [ofC]
noncomputable def vA (al:AL):Operand→Option V
 | .tmp t=>lk al t
 | .const v=>cV v
 | .func f=>some (.f f [] [])
 | .global _=>none
theorem Kn.ev {tm:TT V} {al:AL} (h:Kn tm al) {x:Operand} {v:V} (hx:vA al x=some v):ev0 tm x=v:=by
 cases x with
 | tmp t=>exact h t v hx
 | const c=>have hx:cV c=some v:=hx;rw [cV_eq] at hx;exact Option.some.inj hx
 | func f=>exact Option.some.inj hx
 | global g=>cases hx
noncomputable def vAs (al:AL) (l:List Operand):Option (List V):=List.rec (some []) (fun x _ ih=>Option.rec none (fun v=>Option.rec none (fun vs=>some (v :: vs)) ih) (vA al x)) l
theorem Kn.evs {tm:TT V} {al:AL} (h:Kn tm al):∀ {l:List Operand} {vs:List V},vAs al l=some vs→lmap (ev0 tm) l=vs
 | [],vs,hx=>Option.some.inj hx
 | x :: l,vs,hx=>by
   have hx:Option.rec (motive:=fun _=>Option (List V)) none (fun v=>Option.rec (motive:=fun _=>Option (List V)) none (fun vs=>some (v :: vs)) (vAs al l)) (vA al x)=some vs:=hx
   cases h1:vA al x with
   | none=>rw [h1] at hx;cases hx
   | some v=>
     rw [h1] at hx
     cases h2:vAs al l with
     | none=>rw [h2] at hx;cases hx
     | some r=>
       rw [h2] at hx
       cases Option.some.inj hx
       show ev0 tm x :: lmap (ev0 tm) l=_
       rw [h.ev h1,h.evs h2]
noncomputable def pAs (al:AL) (l:List (Nat × Operand)):Option (List (Nat × V)):=List.rec (some []) (fun p _ ih=>Prod.rec (fun k x=>Option.rec none (fun v=>Option.rec none (fun vs=>some ((k,v) :: vs)) ih) (vA al x)) p) l
theorem Kn.pevs {tm:TT V} {al:AL} (h:Kn tm al):∀ {l:List (Nat × Operand)} {vs:List (Nat × V)},pAs al l=some vs→pmap (ev0 tm) l=vs
 | [],vs,hx=>Option.some.inj hx
 | (k,x) :: l,vs,hx=>by
   have hx:Option.rec (motive:=fun _=>Option (List (Nat × V))) none (fun v=>Option.rec (motive:=fun _=>Option (List (Nat × V))) none (fun vs=>some ((k,v) :: vs)) (pAs al l)) (vA al x)=some vs:=hx
   cases h1:vA al x with
   | none=>rw [h1] at hx;cases hx
   | some v=>
     rw [h1] at hx
     cases h2:pAs al l with
     | none=>rw [h2] at hx;cases hx
     | some r=>
       rw [h2] at hx
       cases Option.some.inj hx
       show (k,ev0 tm x) :: pmap (ev0 tm) l=_
       rw [h.ev h1,h.pevs h2]
abbrev G:=Nat→Option Blk
def Le (g g':G):Prop:=∀ b x,g b=some x→g' b=some x
theorem Le.refl (g:G):Le g g:=fun _ _ h=>h
theorem Le.trans {a b c:G} (h:Le a b) (k:Le b c):Le a c:=fun _ _ x=>k _ _ (h _ _ x)
inductive Res where
 | blk (b:Nat) (x:Blk)
 | acc (v:V) (s:Nat) (cs:List V) (t:Nat)
abbrev ML:=List Res
def Em (v:V):Prop:=v= .sn∨v= .ez∨∃ b o,v= .sl b o 0 0
def Res.fp:Res→List Nat
 | .blk b _=>[b]
 | .acc (.su b _ _ _) _ _ _=>[b]
 | .acc (.sl b _ (_+1) _) _ _ _=>[b]
 | .acc _ _ _ _=>[]
def Res.ok (h:H):Res→Prop
 | .blk b x=>h.get b=some x
 | .acc v s cs t=>(Em v∧cs=[])∨∃ b n,(v= .su b 0 n s∨∃ k,n=k+1∧v= .sl b 0 n n)∧cs.length=n * s∧h.get b=some (.cells cs t)
def fps (ml:ML):List Nat:=ml.flatMap Res.fp
theorem Qax (r:Res) (ml:ML):fps (r :: ml)=r.fp ++ fps ml:=rfl
theorem Qct (a b:ML):fps (a ++ b)=fps a ++ fps b:=by simp [fps]
theorem Res.ok_same {h h':H}:∀ {r:Res},(∀ b∈r.fp,h'.get b=h.get b)→r.ok h→r.ok h'
 | .blk b x,hs,hr=>by
   show h'.get b=some x
   rw [hs b (by simp [Res.fp])];exact hr
 | .acc v s cs t,hs,hr=>by
   rcases hr with hr | ⟨b,n,hv,h1,h2⟩
   ·exact .inl hr
   ·exact .inr ⟨b,n,hv,h1,by rw [hs b (by rcases hv with rfl | ⟨k,rfl,rfl⟩ <;> simp [Res.fp])];exact h2⟩
structure Base where
 n:Nat
 fl:Nat
 old:Nat→Option Blk
 vis:G
 W:List Nat
structure St (B:Base) (g:G) (ml:ML) (h:H):Prop where
 wf:∀ b,h.n≤b→h.get b=none
 fl:h.fl=B.fl
 fln:B.fl≤B.n
 le:B.n≤h.n
 old:∀ b,b < B.n→b ∉ B.W→h.get b=B.old b
 sub:∀ b x,g b=some x→h.get b=some x
 vis:∀ b x,g b=some x→b < B.n→B.vis b=some x∨b∈B.W
 own:∀ r∈ml,r.ok h
 nd:(fps ml).Nodup
 fresh:∀ b∈fps ml,g b=none∧B.fl≤b∧b < h.n∧(b < B.n→b∈B.W)
theorem St.lt {B:Base} {g:G} {ml:ML} {h:H} (s:St B g ml h) {b:Nat} {x:Blk} (hx:h.get b=some x):b < h.n:=by
 rcases Nat.lt_or_ge b h.n with h1 | h1
 ·exact h1
 ·rw [s.wf b h1] at hx;cases hx
theorem fps_sub {a b:ML} (h:a.Sublist b):(fps a).Sublist (fps b):=by
 induction h with
 | slnil=>exact List.Sublist.refl _
 | cons x _ ih=>rw [Qax];exact ih.trans (List.sublist_append_right _ _)
 | cons_cons x _ ih=>rw [Qax,Qax];exact ih.append_left _
theorem St.weak {B:Base} {g:G} {ml ml':ML} {h:H} (s:St B g ml h) (hs:ml'.Sublist ml):St B g ml' h:=by
 have hf:(fps ml').Sublist (fps ml):=by
  exact fps_sub hs
 exact {s with own:=fun r hr=>s.own r (hs.subset hr),nd:=s.nd.sublist hf,fresh:=fun b hb=>s.fresh b (hf.subset hb)}
theorem St.new {B:Base} {g:G} {ml:ML} {h:H} (s:St B g ml h) (x:Blk):St B g (.blk h.n x :: ml) (h.new x):=by
 have gt:∀ b,(h.new x).get b=if b=h.n then some x else h.get b:=H.get_new h x
 have hn:(h.new x).n=h.n+1:=rfl
 refine ⟨fun b hb=>?_,s.fl,s.fln,by rw [hn];exact Nat.le_succ_of_le s.le,fun b hb hW=>?_,fun b y hy=>?_,s.vis,fun r hr=>?_,?_,fun b hb=>?_⟩
 ·rw [gt,if_neg (by rw [hn] at hb;omega)];exact s.wf b (by rw [hn] at hb;omega)
 ·rw [gt,if_neg (by have:=s.le;omega)];exact s.old b hb hW
 ·have h1:=s.sub b y hy
  have:=s.lt h1
  rw [gt,if_neg (by omega)];exact h1
 ·rcases List.mem_cons.1 hr with rfl | hr
  ·show (h.new x).get h.n=some x
   rw [gt,if_pos rfl]
  ·exact Res.ok_same (fun b hb=>by
     have:=(s.fresh b (by unfold fps;exact List.mem_flatMap.2 ⟨r,hr,hb⟩)).2.2.1
     rw [gt,if_neg (by omega)]) (s.own r hr)
 ·rw [Qax]
  show (h.n :: fps ml).Nodup
  exact List.nodup_cons.2 ⟨fun hm=>by have:=(s.fresh _ hm).2.2.1;omega,s.nd⟩
 ·rw [Qax] at hb
  rcases List.mem_cons.1 hb with rfl | hb
  ·refine ⟨?_,by rw [←s.fl];have:=s.le;have:=s.fln;have:=s.fl;omega,by rw [hn];omega,fun hlt=>absurd s.le (by omega)⟩
   cases hg:g h.n with
   | none=>rfl
   | some y=>have:=s.lt (s.sub _ _ hg);omega
  ·obtain ⟨h1,h2,h3,h4⟩:=s.fresh b hb
   exact ⟨h1,h2,by rw [hn];omega,h4⟩
theorem fps_perm {a b:ML} (h:a.Perm b):(fps a).Perm (fps b):=List.Perm.flatMap_right _ h
theorem St.perm {B:Base} {g:G} {ml ml':ML} {h:H} (s:St B g ml h) (hp:ml.Perm ml'):St B g ml' h:=
 {s with own:=fun r hr=>s.own r (hp.mem_iff.2 hr),nd:=(fps_perm hp).nodup_iff.1 s.nd,fresh:=fun b hb=>s.fresh b ((fps_perm hp).mem_iff.2 hb)}
noncomputable def Base.at (h:H) (g:G) (ml:ML):Base:=⟨h.n,h.fl,h.get,g,fps ml⟩
theorem mem_fps {ml:ML} {r:Res} {b:Nat} (hr:r∈ml) (hb:b∈r.fp):b∈fps ml:=by unfold fps;exact List.mem_flatMap.2 ⟨r,hr,hb⟩
theorem St.frame {B:Base} {g g':G} {F I I':ML} {h h':H} (s:St B g (F ++ I) h) (k:St (Base.at h g I) g' I' h'):St B g' (F ++ I') h':=by
 have key:∀ b,b < h.n→b ∉ fps I→h'.get b=h.get b:=fun b hb hn=>k.old b hb hn
 have nd:=s.nd
 rw [Qct,List.nodup_append] at nd
 have gF:∀ b,b∈fps F→b < h.n∧b ∉ fps I:=fun b hb=>
  ⟨(s.fresh b (by rw [Qct];exact List.mem_append_left _ hb)).2.2.1,fun hi=>nd.2.2 b hb b hi rfl⟩
 refine ⟨k.wf,k.fl.trans s.fl,s.fln,Nat.le_trans s.le k.le,fun b hb hW=>?_,k.sub,fun b x hx hb=>?_,fun r hr=>?_,?_,fun b hb=>?_⟩
 ·have hlt:b < h.n:=Nat.lt_of_lt_of_le hb s.le
  rw [key b hlt fun hi=>hW ((s.fresh b (by rw [Qct];exact List.mem_append_right _ hi)).2.2.2 hb)]
  exact s.old b hb hW
 ·rcases k.vis b x hx (Nat.lt_of_lt_of_le hb s.le) with h1 | h1
  ·exact s.vis b x h1 hb
  ·exact .inr ((s.fresh b (by rw [Qct];exact List.mem_append_right _ h1)).2.2.2 hb)
 ·rcases List.mem_append.1 hr with hr | hr
  ·exact Res.ok_same (fun b hb=>key b (gF b (mem_fps hr hb)).1 (gF b (mem_fps hr hb)).2) (s.own r (List.mem_append_left _ hr))
  ·exact k.own r hr
 ·rw [Qct,List.nodup_append]
  refine ⟨nd.1,k.nd,fun a ha b hb e=>?_⟩
  subst e
  exact (gF a ha).2 ((k.fresh a hb).2.2.2 (gF a ha).1)
 ·rw [Qct] at hb
  rcases List.mem_append.1 hb with hb | hb
  ·obtain ⟨h1,h2,h3,h4⟩:=s.fresh b (by rw [Qct];exact List.mem_append_left _ hb)
   refine ⟨?_,h2,Nat.lt_of_lt_of_le h3 k.le,h4⟩
   cases hg:g' b with
   | none=>rfl
   | some x=>
     rcases k.vis b x hg h3 with h5 | h5
     ·exact absurd h5 (by show g b≠some x;rw [h1];simp)
     ·exact absurd h5 (gF b hb).2
  ·obtain ⟨h1,h2,h3,h4⟩:=k.fresh b hb
   refine ⟨h1,by rw [←s.fl];exact h2,h3,fun hlt=>?_⟩
   exact (s.fresh b (by rw [Qct];exact List.mem_append_right _ (h4 (Nat.lt_of_lt_of_le hlt s.le)))).2.2.2 hlt
theorem St.self {B:Base} {g:G} {ml:ML} {h:H} (s:St B g ml h) (I:ML) (hI:∃ F,ml.Perm (F ++ I)):St (Base.at h g I) g I h:=by
 obtain ⟨F,hp⟩:=hI
 have s:=s.perm hp
 have nd:=s.nd
 rw [Qct,List.nodup_append] at nd
 refine ⟨s.wf,rfl,by show h.fl≤h.n;rw [s.fl];exact Nat.le_trans s.fln s.le,Nat.le_refl _,fun _ _ _=>rfl,s.sub,fun _ _ hx _=>.inl hx,fun r hr=>s.own r (List.mem_append_right _ hr),nd.2.1,fun b hb=>?_⟩
 obtain ⟨h1,h2,h3,_⟩:=s.fresh b (by rw [Qct];exact List.mem_append_right _ hb)
 exact ⟨h1,by show h.fl≤b;rw [s.fl];exact h2,h3,fun _=>hb⟩
inductive Rp (r r':Res):ML→ML→Prop
 | hd {l:ML}:Rp r r' (r :: l) (r' :: l)
 | tl {x:Res} {l l':ML}:Rp r r' l l'→Rp r r' (x :: l) (x :: l')
theorem Rp.perm {r r':Res} {l l':ML} (h:Rp r r' l l'):∃ F:ML,l.Perm (F ++ [r])∧l'.Perm (F ++ [r']):=by
 induction h with
 | hd=>rename_i l;exact ⟨l,(List.perm_append_singleton _ _).symm,(List.perm_append_singleton _ _).symm⟩
 | tl _ ih=>rename_i x l l' _;obtain ⟨F,h1,h2⟩:=ih;exact ⟨x :: F,h1.cons x,h2.cons x⟩
theorem St.rp {B:Base} {g g':G} {ml ml':ML} {r r':Res} {h h':H} (s:St B g ml h) (hr:Rp r r' ml ml') (k:St (Base.at h g [r]) g' [r'] h'):St B g' ml' h':=by
 obtain ⟨F,h1,h2⟩:=hr.perm
 exact (St.frame (s.perm h1) k).perm h2.symm
theorem St.rpSelf {B:Base} {g:G} {ml ml':ML} {r r':Res} {h:H} (s:St B g ml h) (hr:Rp r r' ml ml'):St (Base.at h g [r]) g [r] h:=by
 obtain ⟨F,h1,_⟩:=hr.perm
 exact s.self [r] ⟨F,h1⟩
inductive Hb (g:G) (b:Nat) (x:Blk):ML→Prop
 | g {l:ML}:g b=some x→Hb g b x l
 | hd {l:ML}:Hb g b x (.blk b x :: l)
 | tl {r:Res} {l:ML}:Hb g b x l→Hb g b x (r :: l)
 | acc {v:V} {n s t:Nat} {cs:List V} {l:ML}:(v= .su b 0 n s∨∃ k,n=k+1∧v= .sl b 0 n n)→x= .cells cs t→Hb g b x (.acc v s cs t :: l)
theorem Hb.get {B:Base} {g:G} {ml:ML} {h:H} {b:Nat} {x:Blk} (hx:Hb g b x ml) (s:∀ r∈ml,r.ok h) (hs:∀ b x,g b=some x→h.get b=some x):h.get b=some x:=by
 induction hx with
 | g h1=>exact hs _ _ h1
 | hd=>exact s _ List.mem_cons_self
 | tl _ ih=>exact ih fun r hr=>s r (List.mem_cons_of_mem _ hr)
 | acc hv hx=>
   subst hx
   rcases s _ List.mem_cons_self with ⟨e,_⟩ | ⟨b',n',e,_,h2⟩
   ·rcases hv with rfl | ⟨k,rfl,rfl⟩ <;> rcases e with e | e | ⟨_,_,e⟩ <;> cases e
   ·rcases hv with rfl | ⟨k,rfl,rfl⟩ <;> rcases e with e | ⟨_,_,e⟩ <;> cases e <;> exact h2
theorem St.get {B:Base} {g:G} {ml:ML} {h:H} (s:St B g ml h) {b:Nat} {x:Blk} (hx:Hb g b x ml):h.get b=some x:=hx.get (B:=B) s.own s.sub
theorem St.put1 {g:G} {b:Nat} {x y:Blk} {h:H} (s:St (Base.at h g [.blk b x]) g [.blk b x] h):St (Base.at h g [.blk b x]) g [.blk b y] (h.put b y):=by
 have gt:∀ k,(h.put b y).get k=if k=b then some y else h.get k:=H.get_put h b y
 have hb:b∈fps [Res.blk b x]:=by simp [fps,Res.fp]
 obtain ⟨f1,f2,f3,_⟩:=s.fresh b hb
 refine ⟨fun k hk=>?_,s.fl,s.fln,s.le,fun k hk hW=>?_,fun k z hz=>?_,s.vis,fun r hr=>?_,by simp [fps,Res.fp],fun k hk=>?_⟩
 ·rw [gt,if_neg (by have:h.n≤k:=hk;omega)];exact s.wf k hk
 ·rw [gt,if_neg (fun e=>hW (by subst e;exact hb))];rfl
 ·rw [gt,if_neg (fun e=>by subst e;rw [f1] at hz;cases hz)];exact s.sub k z hz
 ·rw [List.mem_singleton.1 hr]
  show (h.put b y).get b=some y
  rw [gt,if_pos rfl]
 ·have:k=b:=by simpa [fps,Res.fp] using hk
  subst this
  exact ⟨f1,f2,f3,fun _=>hb⟩
theorem St.put {B:Base} {g:G} {ml ml':ML} {b:Nat} {x y:Blk} {h:H} (s:St B g ml h) (hr:Rp (.blk b x) (.blk b y) ml ml'):St B g ml' (h.put b y):=s.rp hr (s.rpSelf hr).put1
theorem Rp.mem {r r':Res} {l l':ML} (h:Rp r r' l l'):r∈l:=by
 induction h with
 | hd=>exact List.mem_cons_self
 | tl _ ih=>exact List.mem_cons_of_mem _ ih
theorem St.blkFl {B:Base} {g:G} {ml:ML} {h:H} (s:St B g ml h) {b:Nat} {x:Blk} (hm:Res.blk b x∈ml):h.fl≤b:=by
 rw [s.fl];exact (s.fresh b (mem_fps hm (by simp [Res.fp]))).2.1
def G.add (g:G) (b:Nat) (x:Blk):G:=fun k=>if k=b then some x else g k
theorem Le.add {g:G} {b:Nat} {x:Blk} (h:g b=none):Le g (g.add b x):=fun k y hk=>by
 unfold G.add
 rw [if_neg (fun e=>by subst e;rw [h] at hk;cases hk)];exact hk
theorem St.freeze {B:Base} {g:G} {ml:ML} {h:H} {b:Nat} {x:Blk} (s:St B g (.blk b x :: ml) h):St B (g.add b x) ml h:=by
 have hb:b∈fps (.blk b x :: ml):=by rw [Qax];simp [Res.fp]
 obtain ⟨f1,f2,f3,f4⟩:=s.fresh b hb
 have nd:=s.nd
 rw [Qax] at nd
 have nd:(b :: fps ml).Nodup:=nd
 refine {s with sub:=fun k z hz=>?_,vis:=fun k z hz hk=>?_,own:=fun r hr=>s.own r (List.mem_cons_of_mem _ hr),nd:=(List.nodup_cons.1 nd).2,fresh:=fun k hk=>?_}
 ·unfold G.add at hz
  by_cases e:k=b
  ·rw [if_pos e] at hz;cases hz;subst e;exact s.own _ List.mem_cons_self
  ·rw [if_neg e] at hz;exact s.sub k z hz
 ·unfold G.add at hz
  by_cases e:k=b
  ·subst e;exact .inr (f4 hk)
  ·rw [if_neg e] at hz;exact s.vis k z hz hk
 ·obtain ⟨h1,h2,h3,h4⟩:=s.fresh k (by rw [Qax];exact List.mem_append_right _ hk)
  refine ⟨?_,h2,h3,h4⟩
  unfold G.add
  rw [if_neg (fun (e:k=b)=>(List.nodup_cons.1 nd).1 (by rw [←e];exact hk))];exact h1
theorem St.gnone {B:Base} {g:G} {ml:ML} {h:H} {b:Nat} {x:Blk} (s:St B g (.blk b x :: ml) h):g b=none:=(s.fresh b (by rw [Qax];simp [Res.fp])).1
inductive Tk (r:Res):ML→ML→Prop
 | hd {l:ML}:Tk r (r :: l) l
 | tl {x:Res} {l l':ML}:Tk r l l'→Tk r (x :: l) (x :: l')
theorem Tk.perm {r:Res} {l l':ML} (h:Tk r l l'):l.Perm (r :: l'):=by
 induction h with
 | hd=>exact List.Perm.refl _
 | tl _ ih=>exact (ih.cons _).trans (List.Perm.swap _ _ _)
end Go.Ev
namespace Go.Ev
open Go
set_option linter.unusedVariables false
set_option linter.unusedSimpArgs false
abbrev AQ:=Ex→AL→G→ML→List D→Prop
section
variable (P:Program) (nat:Nats)
def Wc (ro:Option Nat) (N:Nat) (B:Base) (c:Code) (al:AL) (g:G) (ml:ML) (ds:List D) (Q:AQ):Prop:=
 ∀ tm h,Kn tm al→St B g ml h→∃ e tm' ds' h',Run P nat (.code ro N c tm ds h) (.ex e tm' ds' h')∧∃ al' g' ml',Kn tm' al'∧St B g' ml' h'∧Q e al' g' ml' ds'
abbrev OQ:=AL→G→ML→Prop
def Wo (N:Nat) (B:Base) (ops l:List Oper) (al:AL) (g:G) (ml:ML) (Q:OQ):Prop:=
 ∀ tm h,Kn tm al→St B g ml h→∃ n tm' h',Qdd P (ev P nat n) N ops l tm h=some (tm',h')∧∃ al' g' ml',Kn tm' al'∧St B g' ml' h'∧Q al' g' ml'
def Fw (f:V) (args:List V) (g:G) (ml:ML) (Post:G→ML→V→Prop):Prop:=
 ∀ h,St (Base.at h g ml) g ml h→∃ r h' g' ml',Run P nat (.call f args h) (.val r h')∧St (Base.at h g ml) g' ml' h'∧Le g g'∧Post g' ml' r
def Fv (f:V) (args:List V) (g:G) (v:V):Prop:=
 ∀ h,St (Base.at h g []) g [] h→∃ h',Run P nat (.call f args h) (.val v h')∧St (Base.at h g []) g [] h'
end
section
variable {P:Program} {nat:Nats} {ro:Option Nat} {N:Nat} {B:Base}
theorem Fv.fw {f:V} {args:List V} {g:G} {v:V} (h:Fv P nat f args g v):Fw P nat f args g [] fun g' ml' r=>g'=g∧ml'=[]∧r=v:=fun m s=>by
 obtain ⟨h',h1,h2⟩:=h m s
 exact ⟨v,h',g,[],h1,h2,Le.refl _,rfl,rfl,rfl⟩
theorem Fw.fv {f:V} {args:List V} {g:G} {v:V} (h:Fw P nat f args g [] fun g' ml' r=>r=v):Fv P nat f args g v:=fun m s=>by
 obtain ⟨r,h',g',ml',h1,h2,h3,rfl⟩:=h m s
 exact ⟨h',h1,{h2 with sub:=fun b x hx=>h2.sub b x (h3 b x hx),vis:=fun b x hx _=>.inl hx,own:=fun r hr=>(by cases hr),nd:=List.nodup_nil,fresh:=fun b hb=>(by cases hb)}⟩
theorem Fw.mono {f:V} {args:List V} {g:G} {ml:ML} {Q R:G→ML→V→Prop} (h:Fw P nat f args g ml Q) (hq:∀ g' ml' r,Le g g'→Q g' ml' r→R g' ml' r):Fw P nat f args g ml R:=fun m s=>by
 obtain ⟨r,h',g',ml',h1,h2,h3,h4⟩:=h m s
 exact ⟨r,h',g',ml',h1,h2,h3,hq _ _ _ h3 h4⟩
variable {al:AL} {g:G} {ml:ML} {ds:List D} {Q:AQ}
theorem Wc.sub {c:Code} {al':AL} (hs:SubL al al') (h:Wc P nat ro N B c al' g ml ds Q):Wc P nat ro N B c al g ml ds Q:=fun tm m hk s=>h tm m (hk.sub hs) s
theorem Wc.drop {c:Code} {ml':ML} (hs:ml'.Sublist ml) (h:Wc P nat ro N B c al g ml' ds Q):Wc P nat ro N B c al g ml ds Q:=fun tm m hk s=>h tm m hk (s.weak hs)
theorem Wc.skip (h:Q .normal al g ml ds):Wc P nat ro N B .skip al g ml ds Q:=fun tm m hk s=>⟨_,_,_,_,⟨1,rfl⟩,al,g,ml,hk,s,h⟩
theorem Wc.label {i:Nat} (h:Q .normal al g ml ds):Wc P nat ro N B (.label i) al g ml ds Q:=fun tm m hk s=>⟨_,_,_,_,⟨1,rfl⟩,al,g,ml,hk,s,h⟩
theorem Wc.ret (h:Q .ret al g ml ds):Wc P nat ro N B .ret al g ml ds Q:=fun tm m hk s=>⟨_,_,_,_,⟨1,rfl⟩,al,g,ml,hk,s,h⟩
theorem Wc.exit {i:Nat} (h:Q (.exit i) al g ml ds):Wc P nat ro N B (.exit i) al g ml ds Q:=fun tm m hk s=>⟨_,_,_,_,⟨1,rfl⟩,al,g,ml,hk,s,h⟩
def seqQ (P:Program) (nat:Nats) (ro:Option Nat) (N:Nat) (B:Base) (y:Code) (Q:AQ):AQ:=fun e al g ml ds=>match e with
 | .normal=>Wc P nat ro N B y al g ml ds Q
 | .exit i=>Q (.exit i) al g ml ds
 | .ret=>Q .ret al g ml ds
theorem Wc.seq {x y:Code} (h:Wc P nat ro N B x al g ml ds (seqQ P nat ro N B y Q)):Wc P nat ro N B (.seq x y) al g ml ds Q:=fun tm m hk s=>by
 obtain ⟨e,tm1,ds1,h1,r1,al1,g1,ml1,k1,s1,q1⟩:=h tm m hk s
 cases e with
 | normal=>
   obtain ⟨e2,tm2,ds2,h2,r2,q2⟩:=q1 tm1 h1 k1 s1
   obtain ⟨n,a,b⟩:=r1.at2 r2
   exact ⟨e2,tm2,ds2,h2,⟨n+1,by show sSeq (ev P nat n) ro N y (ev P nat n (.code ro N x tm ds m))=_;rw [a];exact b⟩,q2⟩
 | exit i=>
   obtain ⟨n,a⟩:=r1
   exact ⟨.exit i,tm1,ds1,h1,⟨n+1,by show sSeq (ev P nat n) ro N y (ev P nat n (.code ro N x tm ds m))=_;rw [a];rfl⟩,al1,g1,ml1,k1,s1,q1⟩
 | ret=>
   obtain ⟨n,a⟩:=r1
   exact ⟨.ret,tm1,ds1,h1,⟨n+1,by show sSeq (ev P nat n) ro N y (ev P nat n (.code ro N x tm ds m))=_;rw [a];rfl⟩,al1,g1,ml1,k1,s1,q1⟩
theorem Wc.cond {c:Operand} {x y:Code} {b:Bool} (hc:vA al c=some (.b b)) (ht:b=true→Wc P nat ro N B x al g ml ds Q) (hf:b=false→Wc P nat ro N B y al g ml ds Q):Wc P nat ro N B (.cond c x y) al g ml ds Q:=fun tm m hk s=>by
 have e:=hk.ev hc
 cases b with
 | true=>
   obtain ⟨e2,tm2,ds2,h2,⟨n,r2⟩,q2⟩:=ht rfl tm m hk s
   exact ⟨e2,tm2,ds2,h2,⟨n+1,by show sCond (ev P nat n) ro N x y tm ds m (ev0 tm c)=_;rw [e];exact r2⟩,q2⟩
 | false=>
   obtain ⟨e2,tm2,ds2,h2,⟨n,r2⟩,q2⟩:=hf rfl tm m hk s
   exact ⟨e2,tm2,ds2,h2,⟨n+1,by show sCond (ev P nat n) ro N x y tm ds m (ev0 tm c)=_;rw [e];exact r2⟩,q2⟩
theorem Wc.condT {c:Operand} {x y:Code} {b:Bool} (hc:vA al c=some (.b b)) (hb:b=true) (ht:Wc P nat ro N B x al g ml ds Q):Wc P nat ro N B (.cond c x y) al g ml ds Q:=Wc.cond hc (fun _=>ht) (fun h=>by rw [hb] at h;cases h)
theorem Wc.condF {c:Operand} {x y:Code} {b:Bool} (hc:vA al c=some (.b b)) (hb:b=false) (hf:Wc P nat ro N B y al g ml ds Q):Wc P nat ro N B (.cond c x y) al g ml ds Q:=Wc.cond hc (fun h=>by rw [hb] at h;cases h) (fun _=>hf)
def blockQ (id:Nat) (Q:AQ):AQ:=fun e al g ml ds=>match e with
 | .normal=>Q .normal al g ml ds
 | .exit j=>Q (Bool.rec (.exit j) .normal (Nat.beq j id)) al g ml ds
 | .ret=>Q .ret al g ml ds
theorem Wc.block {id:Nat} {c:Code} (h:Wc P nat ro N B c al g ml ds (blockQ id Q)):Wc P nat ro N B (.block id c) al g ml ds Q:=fun tm m hk s=>by
 obtain ⟨e,tm1,ds1,h1,⟨n,a⟩,al1,g1,ml1,k1,s1,q1⟩:=h tm m hk s
 have sh:ev P nat (n+1) (.code ro N (.block id c) tm ds m)=sBlock id (ev P nat n (.code ro N c tm ds m)):=rfl
 rw [a] at sh
 cases e with
 | normal=>exact ⟨.normal,tm1,ds1,h1,⟨n+1,sh⟩,al1,g1,ml1,k1,s1,q1⟩
 | exit j=>exact ⟨_,tm1,ds1,h1,⟨n+1,sh⟩,al1,g1,ml1,k1,s1,q1⟩
 | ret=>exact ⟨.ret,tm1,ds1,h1,⟨n+1,sh⟩,al1,g1,ml1,k1,s1,q1⟩
theorem Wc.scope {c:Code} (h:Wc P nat ro N B c al g ml ds Q):Wc P nat ro N B (.scope c) al g ml ds Q:=fun tm m hk s=>by
 obtain ⟨e,tm1,ds1,h1,⟨n,a⟩,q⟩:=h tm m hk s
 exact ⟨e,tm1,ds1,h1,⟨n+1,a⟩,q⟩
def loopQ {α:Type} (A:α→AL) (M:α→ML) (J:α→G→Prop) (μ:α→Nat) (g0:G) (ds:List D) (x:α) (Q:AQ):AQ:=fun e al g ml ds'=>match e with
 | .normal=>ds'=ds∧∃ x',SubL al (A x')∧(M x').Sublist ml∧Le g0 g∧J x' g∧μ x' < μ x
 | .exit i=>Q (.exit i) al g ml ds'
 | .ret=>Q .ret al g ml ds'
theorem Wc.loop {α:Type} (A:α→AL) (M:α→ML) (J:α→G→Prop) (μ:α→Nat) {c:Code} (x:α) (ha:SubL al (A x)) (hm:(M x).Sublist ml) (hj:J x g)
  (round:∀ x g',Le g g'→J x g'→Wc P nat ro N B c (A x) g' (M x) ds (loopQ A M J μ g' ds x Q)):Wc P nat ro N B (.loop c) al g ml ds Q:=by
 refine Wc.sub ha (Wc.drop hm ?_)
 clear ha hm
 generalize hn:μ x=n
 have main:∀ n x g',Le g g'→J x g'→μ x=n→Wc P nat ro N B (.loop c) (A x) g' (M x) ds Q:=by
  intro n
  induction n using Nat.strongRecOn with
  | ind n ih=>
    intro x g' hg hj hx tm m hk s
    obtain ⟨e,tm1,ds1,h1,r1,al1,g1,ml1,k1,s1,q1⟩:=round x g' hg hj tm m hk s
    cases e with
    | normal=>
      obtain ⟨rfl,x',q2,q3,q4,q5,q6⟩:=q1
      obtain ⟨e2,tm2,ds2,h2,r2,q⟩:=ih (μ x') (by omega) x' g1 (hg.trans q4) q5 rfl tm1 h1 (k1.sub q2) (s1.weak q3)
      obtain ⟨k,a,b⟩:=r1.at2 r2
      exact ⟨e2,tm2,ds2,h2,⟨k+1,by show sLoop (ev P nat k) ro N c (ev P nat k (.code ro N c tm ds1 m))=_;rw [a];exact b⟩,q⟩
    | exit i=>
      obtain ⟨k,a⟩:=r1
      exact ⟨.exit i,tm1,ds1,h1,⟨k+1,by show sLoop (ev P nat k) ro N c (ev P nat k (.code ro N c tm ds m))=_;rw [a];rfl⟩,al1,g1,ml1,k1,s1,q1⟩
    | ret=>
      obtain ⟨k,a⟩:=r1
      exact ⟨.ret,tm1,ds1,h1,⟨k+1,by show sLoop (ev P nat k) ro N c (ev P nat k (.code ro N c tm ds m))=_;rw [a];rfl⟩,al1,g1,ml1,k1,s1,q1⟩
 exact main n x g (Le.refl _) hj hn
theorem Wc.region {id:Nat} {ops:Array Oper} {l:List Oper} (hl:ops.toList=l) (h:Wo P nat N B l l al g ml fun al g ml=>Q .normal al g ml ds):Wc P nat ro N B (.region id ops false) al g ml ds Q:=fun tm m hk s=>by
 subst hl
 obtain ⟨n,tm',h',r,q⟩:=h tm m hk s
 exact ⟨.normal,tm',ds,h',⟨n+1,by show endOps ds (Qdd P (ev P nat n) N ops.toList ops.toList tm m)=_;rw [r];rfl⟩,q⟩
variable {ops l:List Oper} {R:OQ}
theorem Wo.nil (h:R al g ml):Wo P nat N B ops [] al g ml R:=fun tm m hk s=>⟨0,tm,m,rfl,al,g,ml,hk,s,h⟩
def Gd (ops:List Oper) (al:AL):Option (Nat × Bool)→Prop
 | none=>True
 | some (j,want)=>∃ q d,lget ops j=some q∧q.dst=some d∧lk al d=some (.b want)
def Gs (ops:List Oper) (al:AL):Option (Nat × Bool)→Prop
 | none=>False
 | some (j,want)=>∃ q d v,lget ops j=some q∧q.dst=some d∧lk al d=some v∧isB want v=some false
theorem Gd.no:Gd ops al none:=trivial
noncomputable def dAt (ops:List Oper) (j:Nat):Option Nat:=Option.rec none (fun q=>q.dst) (lget ops j)
theorem dAt_some {j d:Nat} (h:dAt ops j=some d):∃ q,lget ops j=some q∧q.dst=some d:=by
 unfold dAt at h
 cases hq:lget ops j with
 | none=>rw [hq] at h;cases h
 | some q=>rw [hq] at h;exact ⟨q,rfl,h⟩
theorem Gd.yes {j d:Nat} {want x:Bool} (h1:dAt ops j=some d) (h2:lk al d=some (.b x)) (h3:x=want):Gd ops al (some (j,want)):=by
 obtain ⟨q,a,b⟩:=dAt_some h1
 exact ⟨q,d,a,b,by rw [h2,h3]⟩
theorem Gs.yes {j d:Nat} {want x:Bool} (h1:dAt ops j=some d) (h2:lk al d=some (.b x)) (h3:x= !want):Gs ops al (some (j,want)):=by
 obtain ⟨q,a,b⟩:=dAt_some h1
 exact ⟨q,d,_,a,b,h2,by rw [h3];show some ((!want) == want)=_;simp⟩
theorem Gs.un {j d:Nat} {want:Bool} (h1:dAt ops j=some d) (h2:lk al d=some (.tup [])):Gs ops al (some (j,want)):=by
 obtain ⟨q,a,b⟩:=dAt_some h1
 exact ⟨q,d,_,a,b,h2,rfl⟩
theorem Gd.want {o:Oper} {tm:TT V} (hk:Kn tm al) (h:Gd ops al o.guard):wantV ops (tget tm) o=some true:=by
 unfold wantV
 cases hg:o.guard with
 | none=>rfl
 | some p=>
   obtain ⟨j,want⟩:=p
   rw [hg] at h
   obtain ⟨q,d,h1,h2,h3⟩:=h
   simp only [h1,h2,hk d _ h3]
   show some (want == want)=_
   simp
theorem Gs.want {o:Oper} {tm:TT V} (hk:Kn tm al) (h:Gs ops al o.guard):wantV ops (tget tm) o=some false:=by
 unfold wantV
 cases hg:o.guard with
 | none=>rw [hg] at h;exact h.elim
 | some p=>
   obtain ⟨j,want⟩:=p
   rw [hg] at h
   obtain ⟨q,d,v,h1,h2,h3,h4⟩:=h
   simp only [h1,h2,hk d _ h3]
   exact h4
theorem runOps_c {go:Task→Option Out} (o:Oper) (l:List Oper) (tm:TT V) (m:H):Qdd P go N ops (o :: l) tm m=runOp P go N ops o (Qdd P go N ops l) tm m:=rfl
theorem Qci {tm:TT V} {v:V} {d:Nat} (hd:Nat.blt d N=true):putT N tm v (some d)=some (tm.set d v):=by
 show Bool.rec (motive:=fun _=>Option (TT V)) none (some (tm.set d v)) (Nat.blt d N)=_
 rw [hd]
theorem Wo.op {o:Op} {d ty:Nat} {pos:String} {af:Array Edge} {gd:Option (Nat × Bool)} {v:V} {g':G} {ml':ML} (hg:Gd ops al gd) (hd:Nat.blt d N=true) (hc:Qbh o=none)
  (hop:∀ tm h,Kn tm al→St B g ml h→∃ h',opV P h (ev0 tm) o=some (v,h')∧St B g' ml' h')
  (k:Wo P nat N B ops l ((d,v) :: al) g' ml' R):Wo P nat N B ops (⟨some d,o,ty,pos,af,gd⟩ :: l) al g ml R:=fun tm m hk s=>by
 obtain ⟨h',h1,s1⟩:=hop tm m hk s
 obtain ⟨n,tm2,h2,r2,q⟩:=k (tm.set d v) h' (hk.set d v) s1
 refine ⟨n,tm2,h2,?_,q⟩
 rw [runOps_c]
 unfold runOp
 rw [Gd.want (o:=⟨some d,o,ty,pos,af,gd⟩) hk hg]
 simp only [oneO,hc,oneV',h1,Qdl,Qci hd]
 exact r2
theorem Wo.opN {o:Op} {ty:Nat} {pos:String} {af:Array Edge} {gd:Option (Nat × Bool)} {v:V} {g':G} {ml':ML} (hg:Gd ops al gd) (hc:Qbh o=none)
  (hop:∀ tm h,Kn tm al→St B g ml h→∃ h',opV P h (ev0 tm) o=some (v,h')∧St B g' ml' h')
  (k:Wo P nat N B ops l al g' ml' R):Wo P nat N B ops (⟨none,o,ty,pos,af,gd⟩ :: l) al g ml R:=fun tm m hk s=>by
 obtain ⟨h',h1,s1⟩:=hop tm m hk s
 obtain ⟨n,tm2,h2,r2,q⟩:=k tm h' hk s1
 refine ⟨n,tm2,h2,?_,q⟩
 rw [runOps_c]
 unfold runOp
 rw [Gd.want (o:=⟨none,o,ty,pos,af,gd⟩) hk hg]
 simp only [oneO,hc,oneV',h1,Qdl,putT]
 exact r2
theorem Wo.skip {o:Op} {d ty:Nat} {pos:String} {af:Array Edge} {gd:Option (Nat × Bool)} (hg:Gs ops al gd) (hd:Nat.blt d N=true)
  (k:Wo P nat N B ops l ((d,.tup []) :: al) g ml R):Wo P nat N B ops (⟨some d,o,ty,pos,af,gd⟩ :: l) al g ml R:=fun tm m hk s=>by
 obtain ⟨n,tm2,h2,r2,q⟩:=k (tm.set d (.tup [])) m (hk.set d _) s
 refine ⟨n,tm2,h2,?_,q⟩
 rw [runOps_c]
 unfold runOp
 rw [Gs.want (o:=⟨some d,o,ty,pos,af,gd⟩) hk hg]
 simp only [Qci hd]
 exact r2
theorem Wo.sub {al':AL} (hs:SubL al al') (h:Wo P nat N B ops l al' g ml R):Wo P nat N B ops l al g ml R:=fun tm m hk s=>h tm m (hk.sub hs) s
theorem Wo.drop {ml':ML} (hs:ml'.Sublist ml) (h:Wo P nat N B ops l al g ml' R):Wo P nat N B ops l al g ml R:=fun tm m hk s=>h tm m hk (s.weak hs)
theorem Wo.callW {f:Operand} {xs:Array Operand} {ats:Array TypeId} {d ty:Nat} {pos:String} {af:Array Edge} {gd:Option (Nat × Bool)} {fv:V} {args:List V} {mr ml1:ML} {Post:G→ML→V→Prop} (hg:Gd ops al gd) (hd:Nat.blt d N=true)
  (hf:vA al f=some fv) (hx:vAs al xs.toList=some args) (hm:ml.Perm (mr ++ ml1)) (hw:Fw P nat fv args g ml1 Post)
  (k:∀ g' ml' r,Le g g'→Post g' ml' r→Wo P nat N B ops l ((d,r) :: al) g' (mr ++ ml') R):
  Wo P nat N B ops (⟨some d,.call ⟨.value f,xs,ats⟩,ty,pos,af,gd⟩ :: l) al g ml R:=fun tm m hk s=>by
 have s':=s.perm hm
 obtain ⟨r,h',g',ml',⟨n1,r1⟩,s1,hle,hp⟩:=hw m (s'.self ml1 ⟨mr,List.Perm.refl _⟩)
 obtain ⟨n2,tm2,h2,r2,q⟩:=k g' ml' r hle hp (tm.set d r) h' (hk.set d r) (s'.frame s1)
 refine ⟨max n1 n2,tm2,h2,?_,q⟩
 rw [runOps_c]
 unfold runOp
 rw [Gd.want (o:=⟨some d,.call ⟨.value f,xs,ats⟩,ty,pos,af,gd⟩) hk hg]
 have e:oneO P (ev P nat (max n1 n2)) m (ev0 tm) (.call ⟨.value f,xs,ats⟩)=some (r,h'):=by
  show valO (ev P nat (max n1 n2) (.call (ev0 tm f) (lmap (ev0 tm) xs.toList) m))=_
  rw [hk.ev hf,hk.evs hx,ev_le (Nat.le_max_left n1 n2) _ _ r1]
  rfl
 simp only [e,Qdl,Qci hd]
 exact runOps_mono (ev_le (Nat.le_max_right n1 n2)) r2
theorem Wo.call {f:Operand} {xs:Array Operand} {ats:Array TypeId} {d ty:Nat} {pos:String} {af:Array Edge} {gd:Option (Nat × Bool)} {fv:V} {args:List V} {Post:G→ML→V→Prop} (hg:Gd ops al gd) (hd:Nat.blt d N=true)
  (hf:vA al f=some fv) (hx:vAs al xs.toList=some args) (hw:Fw P nat fv args g [] Post)
  (k:∀ g' ml' r,Le g g'→Post g' ml' r→Wo P nat N B ops l ((d,r) :: al) g' (ml' ++ ml) R):
  Wo P nat N B ops (⟨some d,.call ⟨.value f,xs,ats⟩,ty,pos,af,gd⟩ :: l) al g ml R:=
 Wo.callW hg hd hf hx (mr:=ml) (ml1:=[]) (by simp) hw fun g' ml' r h1 h2 tm m hk s=>k g' ml' r h1 h2 tm m hk (s.perm List.perm_append_comm)
theorem Wo.callV {f:Operand} {xs:Array Operand} {ats:Array TypeId} {d ty:Nat} {pos:String} {af:Array Edge} {gd:Option (Nat × Bool)} {fv:V} {args:List V} {v:V} (hg:Gd ops al gd) (hd:Nat.blt d N=true)
  (hf:vA al f=some fv) (hx:vAs al xs.toList=some args) (hw:Fv P nat fv args g v) (k:Wo P nat N B ops l ((d,v) :: al) g ml R):
  Wo P nat N B ops (⟨some d,.call ⟨.value f,xs,ats⟩,ty,pos,af,gd⟩ :: l) al g ml R:=
 Wo.call hg hd hf hx hw.fw fun g' ml' r _ ⟨h1,h2,h3⟩=>by subst h1;subst h2;subst h3;exact k
end
end Go.Ev
namespace Go.Ev
open Go
set_option linter.unusedVariables false
set_option linter.unusedSimpArgs false
section
variable (P:Program)
def OpP (al:AL) (o:Op) (v:V):Prop:=Qbh o=none∧∀ tm h,Kn tm al→opV P h (ev0 tm) o=some (v,h)
def OpM (B:Base) (al:AL) (g:G) (ml:ML) (o:Op) (v:V) (g':G) (ml':ML):Prop:=∀ tm h,Kn tm al→St B g ml h→∃ h',opV P h (ev0 tm) o=some (v,h')∧St B g' ml' h'
noncomputable def loadC (t:TypeId) (cs:List V) (o:Nat):Option V:=match aggO P t with
 | some true=>match szO P t with
   | some n=>if o+n≤llen cs then some (.agg (ltake (ldrop cs o) n)) else none
   | none=>none
 | some false=>lget cs o
 | none=>none
noncomputable def seO (t:TypeId):Option Nat:=match slO P t with | some e=>szO P e | none=>none
noncomputable def fpl (l:List Field):Option (List (Nat × Nat)):=List.rec (some []) (fun f _ ih=>match szO P f.type,ih with | some s,some r=>some ((f.offset,s) :: r) | _,_=>none) l
noncomputable def apl (s:Nat) (n:Nat):List (Nat × Nat):=(List.range n).map fun i=>(i * s,s)
noncomputable def bldO (t:TypeId):Option (List V × List (Nat × Nat)):=match zeroO P t with
 | some (.agg z)=>match P.underlying t with
   | some (.struct fs)=>match fpl P fs.toList with
     | some r=>some (z,r)
     | none=>none
   | some (.array n e)=>match szO P e with
     | some s=>some (z,apl s n)
     | none=>none
   | _=>none
 | _=>none
end
noncomputable def fillP (pl:List (Nat × Nat)):List V→List (Nat × V)→Option (List V)
 | c,[]=>some c
 | c,(i,v) :: r=>match lget pl i with
   | some (o,s)=>if v.any? =false∧llen v.cells=s∧o+s≤llen c then fillP pl (setL c o v.cells) r else none
   | none=>none
section
variable {P:Program} {nat:Nats} {N:Nat} {B:Base} {al:AL} {g g':G} {ml ml':ML} {ops l:List Oper} {R:OQ}
theorem Wo.p {o:Op} {d ty:Nat} {pos:String} {af:Array Edge} {gd:Option (Nat × Bool)} {v:V} (hg:Gd ops al gd) (hd:Nat.blt d N=true) (hp:OpP P al o v)
  (k:Wo P nat N B ops l ((d,v) :: al) g ml R):Wo P nat N B ops (⟨some d,o,ty,pos,af,gd⟩ :: l) al g ml R:=
 Wo.op hg hd hp.1 (fun tm h hk s=>⟨h,hp.2 tm h hk,s⟩) k
theorem OpP.pur {o:Op} {v:V} (hc:Qbh o=none) (h:∀ tm h,Kn tm al→opV P h (ev0 tm) o=pur h (some v)):OpP P al o v:=⟨hc,fun tm m hk=>h tm m hk⟩
theorem OpP.move {x:Operand} {v:V} (hx:vA al x=some v):OpP P al (.move x) v:=⟨rfl,fun tm h hk=>by simp only [opV,hk.ev hx]⟩
theorem OpP.assign {x:Operand} {v:V} (hx:vA al x=some v):OpP P al (.assign x) v:=⟨rfl,fun tm h hk=>by simp only [opV,hk.ev hx]⟩
theorem OpP.pickT {c a b:Operand} {x:Bool} {v:V} (hc:vA al c=some (.b x)) (hx:x=true) (ha:vA al a=some v):OpP P al (.pick c a b) v:=⟨rfl,fun tm h hk=>by simp only [opV,hk.ev hc,hk.ev ha,hx];rfl⟩
theorem OpP.pickF {c a b:Operand} {x:Bool} {v:V} (hc:vA al c=some (.b x)) (hx:x=false) (hb:vA al b=some v):OpP P al (.pick c a b) v:=⟨rfl,fun tm h hk=>by simp only [opV,hk.ev hc,hk.ev hb,hx];rfl⟩
theorem OpP.bin {op:BinOp} {t u:TypeId} {x y:Operand} {k:IntKind} {a b:Int} {v:V} (hx:vA al x=some (.i k a)) (hy:vA al y=some (.i k b)) (hv:iop op k a b=some v):OpP P al (.binOp op t x y u) v:=⟨rfl,fun tm h hk=>by
 simp only [opV,hk.ev hx,hk.ev hy,binV,if_true,hv];rfl⟩
theorem OpP.add {t u:TypeId} {x y:Operand} {a b:Int} (hx:vA al x=some (.i .i64 a)) (hy:vA al y=some (.i .i64 b)) (hr: -9223372036854775808≤a+b∧a+b≤9223372036854775807):OpP P al (.binOp .add t x y u) (.i .i64 (a+b)):=
 .bin hx hy (by unfold iop;simp only [];rw [IntWalk.i64_in _ hr])
theorem OpP.sub {t u:TypeId} {x y:Operand} {a b:Int} (hx:vA al x=some (.i .i64 a)) (hy:vA al y=some (.i .i64 b)) (hr: -9223372036854775808≤a - b∧a - b≤9223372036854775807):OpP P al (.binOp .sub t x y u) (.i .i64 (a - b)):=
 .bin hx hy (by unfold iop;simp only [];rw [IntWalk.i64_in _ hr])
theorem OpP.mul {t u:TypeId} {x y:Operand} {a b:Int} (hx:vA al x=some (.i .i64 a)) (hy:vA al y=some (.i .i64 b)) (hr: -9223372036854775808≤a * b∧a * b≤9223372036854775807):OpP P al (.binOp .mul t x y u) (.i .i64 (a * b)):=
 .bin hx hy (by unfold iop;simp only [];rw [IntWalk.i64_in _ hr])
theorem OpP.inc {t u:TypeId} {x y:Operand} {a b:Nat} (hx:vA al x=some (.i .i64 (a:Int))) (hy:vA al y=some (.i .i64 (b:Int))) (hr:a+b≤9223372036854775807):OpP P al (.binOp .add t x y u) (.i .i64 ((a+b:Nat):Int)):=by
 rw [show ((a+b:Nat):Int)=(a:Int)+(b:Int) from rfl]
 exact .add hx hy (by omega)
theorem OpP.inc1 {t u:TypeId} {x y:Operand} {a:Nat} (hx:vA al x=some (.i .i64 (a:Int))) (hy:vA al y=some (.i .i64 1)) (hr:a < 9223372036854775807):OpP P al (.binOp .add t x y u) (.i .i64 ((a+1:Nat):Int)):=by
 rw [show ((a+1:Nat):Int)=(a:Int)+1 from rfl]
 exact .add hx hy (by omega)
theorem OpP.quo {t u:TypeId} {x y:Operand} {a b:Int} (hx:vA al x=some (.i .i64 a)) (hy:vA al y=some (.i .i64 b)) (h0:b≠0) (hr: -9223372036854775808≤a.tdiv b∧a.tdiv b≤9223372036854775807):OpP P al (.binOp .quo t x y u) (.i .i64 (a.tdiv b)):=
 .bin hx hy (by unfold iop;simp only [];rw [if_neg h0,IntWalk.i64_in _ hr])
theorem OpP.rem {t u:TypeId} {x y:Operand} {a b:Int} (hx:vA al x=some (.i .i64 a)) (hy:vA al y=some (.i .i64 b)) (h0:b≠0):OpP P al (.binOp .rem t x y u) (.i .i64 (a.tmod b)):=
 .bin hx hy (by unfold iop;simp only [];rw [if_neg h0])
theorem OpP.not {t:TypeId} {x:Operand} {a:Bool} (hx:vA al x=some (.b a)):OpP P al (.unOp .not t x) (.b (!a)):=⟨rfl,fun tm h hk=>by simp only [opV,hk.ev hx];rfl⟩
theorem OpP.un {op:UnOp} {t:TypeId} {x:Operand} {a v:V} (hx:vA al x=some a) (hv:unV op a=some v):OpP P al (.unOp op t x) v:=⟨rfl,fun tm h hk=>by simp only [opV,hk.ev hx,hv];rfl⟩
theorem OpP.field {t:TypeId} {x:Operand} {f:Nat} {cs:List V} {v:V} {fl:Field} (hx:vA al x=some (.agg cs)) (hf:fieldO P t f=some fl) (hv:partV P fl.type cs fl.offset=some v):OpP P al (.field t x f) v:=⟨rfl,fun tm h hk=>by
 simp only [opV,hk.ev hx,fieldV,hf,hv];rfl⟩
inductive Sl:V→Nat→Nat→Nat→Prop
 | sl {b o n c:Nat}:Sl (.sl b o n c) b o n
 | su {b o n s:Nat}:Sl (.su b o n s) b o n
inductive SlS (s:Nat):V→Nat→Nat→Nat→Prop
 | sl {b o n c:Nat}:n≤c→SlS s (.sl b o n c) b o n
 | su {b o n:Nat}:SlS s (.su b o n s) b o n
theorem SlS.sl1 {s b o n:Nat} {v:V} (h:SlS s v b o n):Sl v b o n:=by
 cases h
 ·exact .sl
 ·exact .su
theorem seO_some {t:TypeId} {s:Nat} (h:seO P t=some s):∃ e,slO P t=some e∧szO P e=some s:=by
 unfold seO at h
 split at h
 ·rename_i e he;exact ⟨e,he,h⟩
 ·cases h
theorem OpP.ix {t:TypeId} {x i:Operand} {v:V} {b o n s:Nat} {k:IntKind} {j:Int} (hx:vA al x=some v) (hs:Sl v b o n) (hi:vA al i=some (.i k j)) (ht:seO P t=some s) (h0:0≤j) (h1:j < n):OpP P al (.indexAddr t x i) (.p b (o+j.toNat * s)):=⟨rfl,fun tm h hk=>by
 obtain ⟨e,h2,h3⟩:=seO_some ht
 cases hs <;> simp only [opV,hk.ev hx,hk.ev hi,indexAddrV,ixSl,h2,h3,if_pos (And.intro h0 h1)] <;> rfl⟩
noncomputable def strO (P:Program) (t:TypeId):Bool:=match P.underlying t with | some .string=>true | _=>false
theorem strO_ok {t:TypeId} (h:strO P t=true):P.underlying t=some .string:=by
 unfold strO at h
 split at h
 ·assumption
 ·cases h
theorem OpP.ixs {t:TypeId} {x i:Operand} {cs:List UInt8} {k:IntKind} {j:Nat} (hx:vA al x=some (.s cs)) (hi:vA al i=some (.i k (j:Int))) (ht:strO P t=true) (h1:j < cs.length):OpP P al (.index t x i) (.i .u8 (cs[j].toNat:Int)):=⟨rfl,fun tm h hk=>by
 have h4:(0:Int)≤j:=by omega
 simp only [opV,hk.ev hx,hk.ev hi,indexV,strO_ok ht,if_pos h4,Int.toNat_natCast,Qbn,List.getElem?_eq_getElem h1];rfl⟩
theorem OpP.ext {x:Operand} {vs:List V} {n:Nat} {v:V} (hx:vA al x=some (.tup vs)) (hv:lget vs n=some v):OpP P al (.extract x n) v:=⟨rfl,fun tm h hk=>by simp only [opV,hk.ev hx,extractV,hv];rfl⟩
theorem OpP.nil {x:Operand} {b o:Nat} (hx:vA al x=some (.p b o)):OpP P al (.nilCheck x) (.p b o):=⟨rfl,fun tm h hk=>by simp only [opV,hk.ev hx,nilV];rfl⟩
theorem OpP.conv {s d:TypeId} {x:Operand} {a v:V} (hx:vA al x=some a) (hv:convV P s d a=some v):OpP P al (.convert s d x) v:=⟨rfl,fun tm h hk=>by simp only [opV,hk.ev hx,hv];rfl⟩
theorem OpP.mf {f:FuncId} {a c:Array Operand} {as cs:List V} (ha:vAs al a.toList=some as) (hc:vAs al c.toList=some cs):OpP P al (.makeFunc (.func f) a c) (.f f as cs):=⟨rfl,fun tm h hk=>by simp only [opV,mfV,hk.evs ha,hk.evs hc]⟩
theorem OpP.len {x:Operand} {t:TypeId} {a v:V} {xs:Array Operand} {ts:Array TypeId} (hxs:xs= #[x]) (hts:ts= #[t]) (hx:vA al x=some a) (hv:lenV P t a=some v):OpP P al (.call ⟨.builtin .len,xs,ts⟩) v:=⟨rfl,fun tm h hk=>by
 subst hxs hts
 show biV P h .len [t] [ev0 tm x]=_
 simp only [biV,bi1,hk.ev hx,hv,Ev.pur]⟩
theorem Qce {t:TypeId} {a:List UInt8} (ht:strO P t=true):lenV P t (.s a)=some (.i .i64 (a.length:Int)):=by simp only [lenV,strO_ok ht,Qao]
theorem OpP.mx {x y:Operand} {xs:Array Operand} {ts:Array TypeId} {t u:TypeId} {k:IntKind} {a b:Int} (hxs:xs= #[x,y]) (hts:ts= #[t,u]) (hx:vA al x=some (.i k a)) (hy:vA al y=some (.i k b)):OpP P al (.call ⟨.builtin .max,xs,ts⟩) (.i k (max a b)):=⟨rfl,fun tm h hk=>by
 subst hxs hts
 show biV P h .max [t,u] [ev0 tm x,ev0 tm y]=_
 simp only [biV,bi2,hk.ev hx,hk.ev hy,max2V]
 simp only [if_true,Ev.pur]
 first | rfl | (congr 3;omega)⟩
theorem OpP.mn {x y:Operand} {xs:Array Operand} {ts:Array TypeId} {t u:TypeId} {k:IntKind} {a b:Int} (hxs:xs= #[x,y]) (hts:ts= #[t,u]) (hx:vA al x=some (.i k a)) (hy:vA al y=some (.i k b)):OpP P al (.call ⟨.builtin .min,xs,ts⟩) (.i k (min a b)):=⟨rfl,fun tm h hk=>by
 subst hxs hts
 show biV P h .min [t,u] [ev0 tm x,ev0 tm y]=_
 simp only [biV,bi2,hk.ev hx,hk.ev hy,min2V]
 simp only [if_true,Ev.pur]
 first | rfl | (congr 3;omega)⟩
theorem fpl_ok {z:Nat→Option (Nat × Nat)}:∀ {fs:List Field} {r:List (Nat × Nat)},fpl P fs=some r→(∀ i,lget r i=match lget fs i with | some f=>(match szO P f.type with | some s=>some (f.offset,s) | none=>none) | none=>none)∧fs.all (fun f=>match szO P f.type with | some _=>true | none=>false)=true
 | [],r,h=>by cases h;exact ⟨fun i=>by cases i <;> rfl,rfl⟩
 | f :: fs,r,h=>by
   have h:(match szO P f.type,fpl P fs with | some s,some r=>some ((f.offset,s) :: r) | _,_=>none)=some r:=h
   split at h
   ·rename_i s q hs hq
    cases h
    obtain ⟨h1,h2⟩:=fpl_ok (z:=z) hq
    refine ⟨fun i=>?_,by simp only [List.all_cons,hs,h2,Bool.and_self]⟩
    cases i with
    | zero=>show some (f.offset,s)=_;simp only [Qbn,List.getElem?_cons_zero,hs]
    | succ i=>show lget q i=_;rw [h1 i];rfl
   ·cases h
theorem fill_eq {pl:List (Nat × Nat)} {f:Nat→Option (Nat × Nat)} (hp:∀ i q,lget pl i=some q→f i=some q):∀ {ps:List (Nat × V)} {c r:List V},fillP pl c ps=some r→fillV f c ps=some r
 | [],c,r,h=>h
 | (i,v) :: ps,c,r,h=>by
   unfold fillP at h
   unfold fillV
   split at h
   · rename_i o s hq
     rw [hp i _ hq]
     simp only []
     split at h
     ·rename_i hc
      rw [if_pos hc]
      exact fill_eq hp h
     ·cases h
   · cases h
theorem OpP.build {t:TypeId} {ps:Array (Nat × Operand)} {qs:List (Nat × V)} {z cs:List V} {pl:List (Nat × Nat)} (hq:pAs al ps.toList=some qs) (ht:bldO P t=some (z,pl)) (hf:fillP pl z qs=some cs):OpP P al (.build t ps) (.agg cs):=⟨rfl,fun tm h hk=>by
 simp only [opV,hk.pevs hq]
 have:buildV P t qs=some (.agg cs):=by
  unfold bldO at ht
  unfold buildV placesO allSz
  split at ht
  ·rename_i zz hz
   rw [hz]
   split at ht
   ·rename_i fs hd
    split at ht
    ·rename_i r hr
     cases ht
     obtain ⟨h1,h2⟩:=fpl_ok (z:=fun _=>none) hr
     simp only [hd,V.any?, V.cells]
     rw [fill_eq (fun i q hi=>by rw [h1 i] at hi;exact hi) hf]
     exact if_pos ⟨trivial,h2⟩
    ·cases ht
   ·rename_i n e hd
    split at ht
    ·rename_i s hs
     cases ht
     simp only [hd,hs,V.any?, V.cells,and_self,if_true]
     rw [fill_eq (fun i q hi=>by
      rw [Qbn] at hi
      unfold apl at hi
      rw [List.getElem?_map] at hi
      cases hr:(List.range n)[i]? with
      | none=>rw [hr] at hi;cases hi
      | some j=>
        rw [hr] at hi
        have:j=i:=by
         obtain ⟨h1,h2⟩:=List.getElem?_eq_some_iff.1 hr
         simpa using h2.symm
        subst this
        exact hi) hf]
    ·cases ht
   ·cases ht
  ·cases ht
 rw [this];rfl⟩
end
end Go.Ev
namespace Go.Ev
open Go
set_option linter.unusedVariables false
set_option linter.unusedSimpArgs false
section
variable (P:Program)
def OpF (al:AL) (o:Op) (f:Nat→V) (x:Blk):Prop:=flB o=true∧∀ tm h,Kn tm al→opV P h (ev0 tm) o=some (f h.n,h.new x)
def OpL (al:AL) (g:G) (ml:ML) (t:TypeId) (x:Operand) (b:Nat) (v:V):Prop:=∃ o cs tt,vA al x=some (.p b o)∧Hb g b (.cells cs tt) ml∧loadC P t cs o=some v
def OpX (B:Base) (al:AL) (g:G) (ml:ML) (o:Op) (mlf:V→ML):Prop:=Qbh o=none∧∀ tm h,Kn tm al→St B g ml h→∃ v h',opV P h (ev0 tm) o=some (v,h')∧St B g (mlf v) h'
def Sc (al:AL) (g:G) (ml:ML) (s:Nat) (xT:TypeId) (y:Operand) (m:Nat) (cs:List V):Prop:=∀ tm h,Kn tm al→(∀ b x,Hb g b x ml→h.get b=some x)→srcV P h s xT (ev0 tm y)=some (m,cs)
noncomputable def zcO (t:TypeId):Option (List V):=match zeroO P t with
 | some z=>if z.any? =true then none else some z.cells
 | none=>none
end
section
variable {P:Program} {nat:Nats} {N:Nat} {B:Base} {al:AL} {g g':G} {ml ml':ML} {ops l:List Oper} {R:OQ}
theorem Wo.f {o:Op} {d ty:Nat} {pos:String} {af:Array Edge} {gd:Option (Nat × Bool)} {f:Nat→V} {x:Blk} (hg:Gd ops al gd) (hd:Nat.blt d N=true) (hp:OpF P al o f x)
  (k:∀ b,Wo P nat N B ops l ((d,f b) :: al) g (.blk b x :: ml) R):Wo P nat N B ops (⟨some d,o,ty,pos,af,gd⟩ :: l) al g ml R:=fun tm m hk s=>by
 obtain ⟨n,tm2,h2,r2,q⟩:=k m.n (tm.set d (f m.n)) (m.new x) (hk.set d _) (s.new x)
 refine ⟨n,tm2,h2,?_,q⟩
 rw [runOps_c]
 unfold runOp
 rw [Gd.want (o:=⟨some d,o,ty,pos,af,gd⟩) hk hg]
 have hc:Qbh o=none:=by cases o <;> first | rfl | (have:=hp.1;cases this)
 simp only [oneO,hc,oneV',hp.2 tm m hk,Qdl,Qci hd]
 exact r2
theorem zcO_some {t:TypeId} {cs:List V} (h:zcO P t=some cs):∃ z,zeroO P t=some z∧z.any? =false∧z.cells=cs:=by
 unfold zcO at h
 split at h
 ·rename_i z hz
  split at h
  ·cases h
  ·rename_i hn;cases h;exact ⟨z,hz,by simpa using hn,rfl⟩
 ·cases h
theorem OpF.alloc {t:TypeId} {cs:List V} (hz:zcO P t=some cs):OpF P al (.alloc t) (fun b=>.p b 0) (.cells cs t):=⟨rfl,fun tm h hk=>by
 obtain ⟨z,h1,h2,rfl⟩:=zcO_some hz
 simp only [opV,allocV,h1,boxV,h2,Bool.false_eq_true,if_false];rfl⟩
theorem OpF.box {t:TypeId} {x:Operand} {v:V} {cs:List V} (hx:vA al x=some v) (hn:v.any? =false) (hc:v.cells=cs):OpF P al (.box t x) (fun b=>.p b 0) (.cells cs t):=⟨rfl,fun tm h hk=>by
 subst hc
 simp only [opV,hk.ev hx,boxV,hn,Bool.false_eq_true,if_false];rfl⟩
theorem OpF.bs {t e:TypeId} {n s bt:Nat} {ps:Array (Nat × Operand)} {qs:List (Nat × V)} {zs c:List V} (hq:pAs al ps.toList=some qs) (ht:slO P t=some e) (he:elO P e=some (s,bt,zs)) (hn:n * s≤16777216)
  (hf:fillV (fun i=>some (i * s,s)) (rep zs n) qs=some c):OpF P al (.buildSlice t n ps) (fun b=>.sl b 0 n n) (.cells c e):=⟨rfl,fun tm h hk=>by
 simp only [opV,hk.pevs hq,Qc,ht,he,if_pos hn,hf];rfl⟩
theorem Wo.alloc {t:TypeId} {d ty:Nat} {pos:String} {af:Array Edge} {gd:Option (Nat × Bool)} {cs:List V} (hg:Gd ops al gd) (hd:Nat.blt d N=true) (hz:zcO P t=some cs)
 (k:∀ b,Wo P nat N B ops l ((d,.p b 0) :: al) g (.blk b (.cells cs t) :: ml) R):Wo P nat N B ops (⟨some d,.alloc t,ty,pos,af,gd⟩ :: l) al g ml R:=Wo.f hg hd (OpF.alloc hz) k
theorem Wo.box {t:TypeId} {x:Operand} {d ty:Nat} {pos:String} {af:Array Edge} {gd:Option (Nat × Bool)} {v:V} {cs:List V} (hg:Gd ops al gd) (hd:Nat.blt d N=true) (hx:vA al x=some v) (hn:v.any? =false) (hc:v.cells=cs)
 (k:∀ b,Wo P nat N B ops l ((d,.p b 0) :: al) g (.blk b (.cells cs t) :: ml) R):Wo P nat N B ops (⟨some d,.box t x,ty,pos,af,gd⟩ :: l) al g ml R:=Wo.f hg hd (OpF.box hx hn hc) k
theorem Wo.bs {t e:TypeId} {n s bt:Nat} {ps:Array (Nat × Operand)} {qs:List (Nat × V)} {zs c:List V} {d ty:Nat} {pos:String} {af:Array Edge} {gd:Option (Nat × Bool)} (hg:Gd ops al gd) (hd:Nat.blt d N=true) (hq:pAs al ps.toList=some qs) (ht:slO P t=some e) (he:elO P e=some (s,bt,zs)) (hn:n * s≤16777216)
 (hf:fillV (fun i=>some (i * s,s)) (rep zs n) qs=some c)
 (k:∀ b,Wo P nat N B ops l ((d,.sl b 0 n n) :: al) g (.blk b (.cells c e) :: ml) R):Wo P nat N B ops (⟨some d,.buildSlice t n ps,ty,pos,af,gd⟩ :: l) al g ml R:=Wo.f hg hd (OpF.bs hq ht he hn hf) k
theorem loadV_of {t:TypeId} {b o:Nat} {cs:List V} {tt:Nat} {v:V} {h:H} (hb:h.get b=some (.cells cs tt)) (hv:loadC P t cs o=some v):loadV P h t (.p b o)=some v:=by
 simp only [loadV,hb];exact hv
theorem Wo.ld {t:TypeId} {x:Operand} {d ty:Nat} {pos:String} {af:Array Edge} {gd:Option (Nat × Bool)} {b:Nat} {v:V} (hg:Gd ops al gd) (hd:Nat.blt d N=true) (hp:OpL P al g ml t x b v)
  (k:Wo P nat N B ops l ((d,v) :: al) g ml R):Wo P nat N B ops (⟨some d,.load t x,ty,pos,af,gd⟩ :: l) al g ml R:=
 Wo.op hg hd rfl (fun tm h hk s=>by
  obtain ⟨o,cs,tt,h1,h2,h3⟩:=hp
  exact ⟨h,by simp only [opV,hk.ev h1,loadV_of (s.get h2) h3];rfl,s⟩) k
theorem OpL.s {t:TypeId} {x:Operand} {b o tt:Nat} {cs:List V} {v:V} (hx:vA al x=some (.p b o)) (hb:Hb g b (.cells cs tt) ml) (ha:aggO P t=some false) (hv:lget cs o=some v):OpL P al g ml t x b v:=⟨o,cs,tt,hx,hb,by simp only [loadC,ha];exact hv⟩
theorem OpL.a {t:TypeId} {x:Operand} {b o tt n:Nat} {cs vs:List V} (hx:vA al x=some (.p b o)) (hb:Hb g b (.cells cs tt) ml) (ha:aggO P t=some true) (hs:szO P t=some n) (hl:Nat.ble (o+n) (llen cs)=true) (hv:ltake (ldrop cs o) n=vs):OpL P al g ml t x b (.agg vs):=⟨o,cs,tt,hx,hb,by
 simp only [loadC,ha,hs];rw [if_pos (Nat.le_of_ble_eq_true hl),hv]⟩
def Pt (g:G) (b o:Nat) (cs:List V):Prop:=∃ full tt,g b=some (.cells full tt)∧o+cs.length≤full.length∧(full.drop o).take cs.length=cs
theorem Pt.mono {b o:Nat} {cs:List V} (h:Pt g b o cs) (hl:Le g g'):Pt g' b o cs:=by
 obtain ⟨full,tt,h1,h2⟩:=h
 exact ⟨full,tt,hl _ _ h1,h2⟩
theorem Pt.get {b o:Nat} {cs full:List V} (h2:(full.drop o).take cs.length=cs) {k:Nat} {v:V} (hv:lget cs k=some v):lget full (o+k)=some v:=by
 rw [Qbn] at hv ⊢
 rw [←h2,List.getElem?_take] at hv
 split at hv
 ·rw [List.getElem?_drop] at hv;exact hv
 ·cases hv
theorem Pt.sub {b o:Nat} {cs full:List V} (h2:(full.drop o).take cs.length=cs) {k n:Nat} (hl:k+n≤cs.length):(full.drop (o+k)).take n=(cs.drop k).take n:=by
 rw [←h2,List.drop_take,List.take_take,List.drop_drop,Nat.min_eq_left (by omega)]
theorem OpL.ps {t:TypeId} {x:Operand} {b o o':Nat} {cs:List V} {v:V} (k:Nat) (hx:vA al x=some (.p b o')) (hp:Pt g b o cs) (ho:o'=o+k) (ha:aggO P t=some false) (hv:lget cs k=some v):OpL P al g ml t x b v:=by
 obtain ⟨full,tt,h1,h2,h3⟩:=hp
 subst ho
 exact ⟨_,full,tt,hx,.g h1,by simp only [loadC,ha];exact Pt.get (b:=b) h3 hv⟩
theorem OpM.store {t : TypeId} {a x : Operand} {b o n tt : Nat} {v : V} {vs cs cs' : List V} (hx : vA al a = some (.p b o)) (hy : vA al x = some v) (hn : v.any? = false) (hc : v.cells = vs) (hs : szO P t = some n) (hv : llen vs = n) (h1 : setL cs o vs = cs') (hr : Rp (.blk b (.cells cs tt)) (.blk b (.cells cs' tt)) ml ml') (hl : Nat.ble (o + n) (llen cs) = true) (ha : Qcd vs = true) :
    OpM P B al g ml (.store t a x) (.tup []) g ml' := fun tm h hk s => by
  refine ⟨h.put b (.cells cs' tt), ?_, s.put hr⟩
  subst hc h1
  have hb := s.get (x := .cells cs tt) (b := b) (by
    have := hr.mem
    clear hr
    induction ml with
    | nil => cases this
    | cons r l ih =>
      rcases List.mem_cons.1 this with h | h
      · subst h; exact .hd
      · exact .tl (by clear ih s; induction l with
          | nil => cases h
          | cons r l ih => rcases List.mem_cons.1 h with h | h
                           · subst h; exact .hd
                           · exact .tl (ih (List.mem_cons_of_mem _ h) h)))
  have hfl := s.blkFl hr.mem
  simp only [opV, hk.ev hx, hk.ev hy, storeV, hs, hv, hn, and_self, if_true, putV, hb]
  rw [if_pos ⟨hfl, Nat.le_of_ble_eq_true hl, ha⟩]; rfl
theorem Wo.st {t:TypeId} {a x:Operand} {ty:Nat} {pos:String} {af:Array Edge} {gd:Option (Nat × Bool)} {b o n tt:Nat} {v:V} {vs cs cs':List V} (hg:Gd ops al gd) (hx:vA al a=some (.p b o)) (hy:vA al x=some v) (hn:v.any? =false) (hc:v.cells=vs) (hs:szO P t=some n) (hv:llen vs=n) (h1:setL cs o vs=cs') (hr:Rp (.blk b (.cells cs tt)) (.blk b (.cells cs' tt)) ml ml') (hl:Nat.ble (o+n) (llen cs)=true) (ha:Qcd vs=true)
 (k:Wo P nat N B ops l al g ml' R):Wo P nat N B ops (⟨none,.store t a x,ty,pos,af,gd⟩ :: l) al g ml R:=Wo.opN hg rfl (OpM.store hx hy hn hc hs hv h1 hr hl ha) k
theorem allOne_cons {v:V} {vs:List V} (h:oneV v=true) (k:Qcd vs=true):Qcd (v :: vs)=true:=by
 show Bool.rec (motive:=fun _=>Bool) false (Qcd vs) (oneV v)=true
 rw [h];exact k
theorem Sl.one {v:V} {b o n:Nat} (h:Sl v b o n):oneV v=true:=by cases h <;> rfl
theorem Sc.of {s xT:Nat} {y:Operand} {m d o e tt:Nat} {w:V} {dc cs:List V} (hy:vA al y=some w) (hw:Sl w d o m) (he:slO P xT=some e) (hb:Hb g d (.cells dc tt) ml) (hl:o+m * s≤llen dc) (hc:ltake (ldrop dc o) (m * s)=cs):Sc P al g ml s xT y m cs:=fun tm h hk hs=>by
 subst hc
 by_cases hm:m=0
 ·subst hm
  have e0:ltake (ldrop dc o) (0 * s)=[]:=by rw [Qbw,Nat.zero_mul,List.take_zero]
  cases hw <;> simp only [hk.ev hy,srcV,he,if_true,e0]
 ·cases hw <;> simp only [hk.ev hy,srcV,he,if_neg hm,hs _ _ hb,if_pos hl]
theorem Sc.nil {s xT:Nat} {y:Operand} {e:Nat} (hy:vA al y=some .sn) (he:slO P xT=some e):Sc P al g ml s xT y 0 []:=fun tm h hk _=>by simp only [hk.ev hy,srcV,he]
theorem elO_some {e s bt:Nat} {zs:List V} (h:elO P e=some (s,bt,zs)):0 < s:=(elO_ok h).elim fun _ h=>h.elim fun _ E=>E.pos
theorem St.hb {h:H} (s:St B g ml h):∀ b x,Hb g b x ml→h.get b=some x:=fun b x hx=>s.get hx
theorem St.accNew {v v':V} {s e:Nat} {cs cs':List V} {h:H} (st:St (Base.at h g [.acc v s cs e]) g [.acc v s cs e] h) (n:Nat) (hn:cs'.length=n * s) (hv':v'= .su h.n 0 n s):
  St (Base.at h g [.acc v s cs e]) g [.acc v' s cs' e] (h.new (.cells cs' e)):=by
 subst hv'
 have k:=(st.weak (ml':=[]) (List.nil_sublist _)).new (.cells cs' e)
 refine {k with own:=fun r hr=>?_,nd:=k.nd,fresh:=k.fresh}
 rw [List.mem_singleton.1 hr]
 exact .inr ⟨h.n,n,.inl rfl,hn,k.own _ List.mem_cons_self⟩
theorem St.accMove {b:Nat} {n n' s e:Nat} {cs cs':List V} {h:H} (st:St (Base.at h g [.acc (.su b 0 n s) s cs e]) g [.acc (.su b 0 n s) s cs e] h) (hn:cs'.length=n' * s):
  St (Base.at h g [.acc (.su b 0 n s) s cs e]) g [.acc (.su h.n 0 n' s) s cs' e] ((h.put b .gone).new (.cells cs' e)):=by
 have hb:b∈fps [Res.acc (.su b 0 n s) s cs e]:=by simp [fps,Res.fp]
 obtain ⟨f1,f2,f3,f4⟩:=st.fresh b hb
 have gt:∀ k,((h.put b .gone).new (.cells cs' e)).get k=if k=h.n then some (.cells cs' e) else if k=b then some .gone else h.get k:=fun k=>by
  rw [H.get_new,H.get_put];rfl
 have hN:((h.put b .gone).new (.cells cs' e)).n=h.n+1:=rfl
 refine ⟨fun k hk=>?_,st.fl,st.fln,by rw [hN];exact Nat.le_succ_of_le st.le,fun k hk hW=>?_,fun k z hz=>?_,st.vis,fun r hr=>?_,by simp [fps,Res.fp],fun k hk=>?_⟩
 ·rw [hN] at hk
  rw [gt,if_neg (by omega),if_neg (by omega)];exact st.wf k (by omega)
 ·have hk:k < h.n:=hk
  rw [gt,if_neg (by omega),if_neg (fun e=>hW (by subst e;exact hb))];rfl
 ·have h1:=st.sub k z hz
  have:=st.lt h1
  rw [gt,if_neg (by omega),if_neg (fun e=>by subst e;rw [f1] at hz;cases hz)];exact h1
 ·rw [List.mem_singleton.1 hr]
  exact .inr ⟨h.n,n',.inl rfl,hn,by rw [gt,if_pos rfl]⟩
 ·have:k=h.n:=by simpa [fps,Res.fp] using hk
  subst this
  refine ⟨?_,by show h.fl≤h.n;exact Nat.le_trans st.fln (Nat.le_refl _),by rw [hN];omega,fun hlt=>absurd hlt (by show ¬ h.n < h.n;omega)⟩
  cases hg:g h.n with
  | none=>rfl
  | some y=>have:=st.lt (st.sub _ _ hg);omega
theorem OpX.app {t xT ty:TypeId} {x y:Operand} {xs:Array Operand} {ts:Array TypeId} {v:V} {s e bt m:Nat} {zs cs new:List V} {mlf:V→ML} (hxs:xs= #[x,y]) (hts:ts= #[t,xT]) (hx:vA al x=some v) (ht:slO P t=some e) (he:elO P e=some (s,bt,zs)) (hsrc:Sc P al g ml s xT y m new) (hm:0 < m) (hnew:new.length=m * s) (hlen:cs.length+new.length≤1000000 * s)
  (hone:Qcd new=true) (hr:∀ v',Rp (.acc v s cs e) (.acc v' s (cs ++ new) e) ml (mlf v')):OpX P B al g ml (.call ⟨.builtin .append,xs,ts⟩) mlf:=⟨rfl,fun tm h hk st=>by
 subst hxs hts
 have hs:=elO_some he
 have hb:∀ k:Nat,(cs ++ new).length=k * s→k≤1000000:=fun k hk=>by
  rw [List.length_append] at hk
  rw [hk] at hlen
  exact Nat.le_of_mul_le_mul_right hlen hs
 have hop:opV P h (ev0 tm) (.call ⟨.builtin .append, #[x,y], #[t,xT]⟩)=app1 h e s m new v:=by
  show biV P h .append [t,xT] [ev0 tm x,ev0 tm y]=_
  simp only [biV,bi2,appendV,ht,he,hsrc tm h hk st.hb,hk.ev hx]
  cases m with
  | zero=>omega
  | succ m=>rfl
 rw [hop]
 have own:=st.own _ (hr v).mem
 rcases own with ⟨hem,rfl⟩ | ⟨b,n,rfl | ⟨kk,hkk,rfl⟩,h1,h2⟩
 ·refine ⟨.su h.n 0 m s,newV h new e,?_,?_⟩
  · have hm6:m≤1000000:=hb m (by simpa using hnew)
    rcases hem with rfl | rfl | ⟨b0,o0,rfl⟩
    ·show (if m≤1000000 then _ else _)=_
     rw [if_pos hm6]
    ·show (if m≤1000000 then _ else _)=_
     rw [if_pos hm6]
    ·show appSl h e s m new b0 o0 0 0=_
     unfold appSl
     rw [if_neg (by omega),if_pos rfl,if_pos hm6]
  · have k:=St.accNew (st.rpSelf (hr v)) (v':=.su h.n 0 m s) m hnew rfl
    exact st.rp (hr _) k
 ·refine ⟨.su h.n 0 (n+m) s,(h.put b .gone).new (.cells (cs ++ new) e),?_,?_⟩
  · show appSu h e s m new b 0 n s=_
    unfold appSu
    rw [h2]
    simp only []
    have hfl:h.fl≤b:=by rw [st.fl];exact (st.fresh b (mem_fps (hr (.su b 0 n s)).mem (by simp [Res.fp]))).2.1
    have hnm:(cs ++ new).length=(n+m) * s:=by rw [List.length_append,h1,hnew,Nat.add_mul]
    rw [if_pos ⟨trivial,trivial,hfl,by rw [Qao,h1];omega,hb (n+m) hnm,hone⟩,lapp_eq,Qbw,Qcc,List.drop_zero, ←h1,List.take_length]
  · have k:=St.accMove (cs':=cs ++ new) (n':=n+m) (st.rpSelf (hr (.su b 0 n s))) (by rw [List.length_append,h1,hnew,Nat.add_mul])
    exact st.rp (hr _) k
 ·refine ⟨.su h.n 0 (n+m) s,newV h (cs ++ new) e,?_,?_⟩
  · show appSl h e s m new b 0 n n=_
    unfold appSl
    have hnm:(cs ++ new).length=(n+m) * s:=by rw [List.length_append,h1,hnew,Nat.add_mul]
    rw [if_neg (by omega),if_neg (by omega),h2]
    simp only []
    rw [if_pos ⟨by rw [Qao,h1];omega,hb (n+m) hnm⟩,lapp_eq,Qbw,Qcc,List.drop_zero, ←h1,List.take_length]
  · have k:=St.accNew (cs':=cs ++ new) (st.rpSelf (hr (.sl b 0 n n))) (v':=.su h.n 0 (n+m) s) (n+m) (by rw [List.length_append,h1,hnew,Nat.add_mul]) rfl
    exact st.rp (hr _) k⟩
theorem Wo.x {o:Op} {d ty:Nat} {pos:String} {af:Array Edge} {gd:Option (Nat × Bool)} {mlf:V→ML} (hg:Gd ops al gd) (hd:Nat.blt d N=true) (hp:OpX P B al g ml o mlf)
  (k:∀ v,Wo P nat N B ops l ((d,v) :: al) g (mlf v) R):Wo P nat N B ops (⟨some d,o,ty,pos,af,gd⟩ :: l) al g ml R:=fun tm m hk s=>by
 obtain ⟨v,h',h1,s1⟩:=hp.2 tm m hk s
 obtain ⟨n,tm2,h2,r2,q⟩:=k v (tm.set d v) h' (hk.set d _) s1
 refine ⟨n,tm2,h2,?_,q⟩
 rw [runOps_c]
 unfold runOp
 rw [Gd.want (o:=⟨some d,o,ty,pos,af,gd⟩) hk hg]
 simp only [oneO,hp.1,oneV',h1,Qdl,Qci hd]
 exact r2
end
end Go.Ev
