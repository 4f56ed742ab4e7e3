import Derived.Test.YtjflgemfeofciaaGreatDoorMX1
import Derived.Laws.Rows
import Derived.Lib.SmallJoins
import Derived.OpenShut
import Derived.DataReads
namespace Go.Ev
open Go
set_option linter.unusedVariables false
set_option linter.unusedSimpArgs false
section
variable (P:Program)
inductive Rl (al:AL) (g:G) (ml:ML):List ResultVar→List V→Prop
 | nil:Rl al g ml [] []
 | tmp {t:Nat} {v:V} {rs:List ResultVar} {vs:List V}:lk al t=some v→Rl al g ml rs vs→Rl al g ml (.tmp t :: rs) (v :: vs)
 | cell {a b:Nat} {t:TypeId} {v:V} {rs:List ResultVar} {vs:List V}:OpL P al g ml t (.tmp a) b v→Rl al g ml rs vs→Rl al g ml (.cell a t :: rs) (v :: vs)
def RetQ (rs:List ResultVar) (g0:G) (Post:G→ML→V→Prop):AQ:=fun e al g ml ds=>match e with
 | .exit _=>False
 | _=>ds=[]∧Le g0 g∧∃ vs v,Rl P al g ml rs vs∧resV (some vs)=some v∧Post g ml v
end
section
variable {P:Program} {nat:Nats} {N:Nat} {B:Base} {al:AL} {g g':G} {ml ml':ML}
noncomputable def numA (l:List V):Nat→AL→AL:=List.rec (fun _ al=>al) (fun v _ ih n al=>ih (n+1) ((n,v) :: al)) l
theorem fill_kn:∀ {l:List V} {n:Nat} {tm:TT V} {al:AL},Kn tm al→Kn (fill l n tm) (numA l n al)
 | [],_,_,_,h=>h
 | v :: l,n,tm,al,h=>fill_kn (l:=l) (h.set n v)
theorem Rl.get {tm:TT V} {h:H} (hk:Kn tm al) (s:St B g ml h):∀ {rs:List ResultVar} {vs:List V},Rl P al g ml rs vs→resL P tm h rs=some vs
 | [],_,.nil=>rfl
 | .tmp t :: rs,_,.tmp h1 h2=>by
   rename_i v vs
   have:=Rl.get hk s h2
   show (match res1 P tm h (.tmp t),resL P tm h rs with | some v,some vs=>some (v :: vs) | _,_=>none)=_
   rw [this]
   simp only [res1,hk t v h1]
 | .cell a t :: rs,_,.cell h1 h2=>by
   rename_i b v vs
   have:=Rl.get hk s h2
   show (match res1 P tm h (.cell a t),resL P tm h rs with | some v,some vs=>some (v :: vs) | _,_=>none)=_
   rw [this]
   obtain ⟨o,cs,tt,k1,k2,k3⟩:=h1
   have e:tget tm a= .p b o:=hk a _ k1
   simp only [res1,e,loadV_of (s.get k2) k3]
theorem Fw.enter {K:Nat} {fn:Func} {c:Code} {x y args:List V} {rs:List ResultVar} {Post:G→ML→V→Prop} (hf:P.funcs[K]? =some fn) (hnat:nat K=none) (hnum:numO fn=false) (hb:fn.body=some c) (hrs:fn.results.toList=rs)
   (hal:numA (lapp x (lapp args y)) 0 []=al) (hN:Nat.max (llen (lapp x (lapp args y))) fn.ntmps=N)
   (h:∀ B,Wc P nat none N B c al g ml [] (RetQ P rs g Post)):Fw P nat (.f K x y) args g ml Post:=fun m s=>by
 subst hal hN hrs
 obtain ⟨e,tm',ds',h',⟨n,r⟩,al',g',ml',k1,s1,q⟩:=h (Base.at m g ml) (fill (lapp x (lapp args y)) 0 .lf) m (fill_kn (Kn.nil _)) s
 have sh:ev P nat (n+1) (.call (.f K x y) args m)=sBody P fn.results.toList (ev P nat n (.code none (Nat.max (llen (lapp x (lapp args y))) fn.ntmps) c (fill (lapp x (lapp args y)) 0 .lf) [] m)):=by
   show sFn P (ev P nat n) K _ m (nat K)=_
   rw [hnat]
   show sFn1 P (ev P nat n) _ m P.funcs[K]? =_
   rw [hf]
   show Bool.rec (motive:=fun _=>Option Out) (sFn2 P (ev P nat n) fn _ m fn.body) none (numO fn)=_
   rw [hnum,hb]
   rfl
 rw [r] at sh
 cases e with
 | exit i=>exact q.elim
 | normal=>
   obtain ⟨rfl,hle,vs,v,q1,q2,q3⟩:=q
   refine ⟨v,h',g',ml',⟨n+1,?_⟩,s1,hle,q3⟩
   rw [sh]
   show valR h' (resV (resL P tm' h' fn.results.toList))=_
   rw [q1.get k1 s1,q2];rfl
 | ret=>
   obtain ⟨rfl,hle,vs,v,q1,q2,q3⟩:=q
   refine ⟨v,h',g',ml',⟨n+1,?_⟩,s1,hle,q3⟩
   rw [sh]
   show valR h' (resV (resL P tm' h' fn.results.toList))=_
   rw [q1.get k1 s1,q2];rfl
theorem Fv.native {K:Nat} {F:List V→Option V} {args:List V} {v:V} (hnat:nat K=some F) (hv:F args=some v):Fv P nat (.f K [] []) args g v:=fun m s=>⟨m,⟨1,by
 show sFn P (ev P nat 0) K _ m (nat K)=_
 rw [hnat]
 show valR m (F (lapp [] (lapp args [])))=_
 have e:lapp [] (lapp args [])=args:=by rw [Qdj,Qdj];simp
 rw [e,hv];rfl⟩,s⟩
end
end Go.Ev
namespace Go.Ev
open Go
set_option linter.unusedVariables false
set_option linter.unusedSimpArgs false
structure Ri where
 anc:Nat
 st:Nat
 full:Bool
 half:Bool
noncomputable def tabF (ops:List Oper) (bf:List Nat):List Oper→Nat→List Ri:=
 List.rec (fun _=>[]) (fun o _ ih i=>⟨(lget bf i).getD 0,stF ((lget bf i).getD 0) ops 0 0 0,(ops.zipIdx).all fun (b,j)=>Nat.beq i j || !rdB b.op || Qbi bf i j,Bool.rec (Bool.rec false ((ops.zipIdx).all fun (b,j)=>Nat.beq i j || !rdB b.op || Qbi bf i j || Nat.beq (stF ((lget bf j).getD 0) ops 0 0 0) 0) (callB o.op)) false ((ops.zipIdx).all fun (b,j)=>Nat.beq i j || !rdB b.op || Qbi bf i j)⟩ :: ih (i+1))
noncomputable def rowT (o:Oper) (a:Ri) (i:Nat):Row:=⟨o,i,a.anc,effB o.op,rdB o.op,a.st,a.full,Bool.rec none (some i) (flB o.op),a.half⟩
noncomputable def rowsT:List Oper→List Ri→Nat→List Row
 | o :: l,a :: tb,i=>rowT o a i :: rowsT l tb (i+1)
 | _,_,_=>[]
theorem rows_eq (ops:List Oper) (bf:List Nat):rows ops bf=rowsT ops (tabF ops bf ops 0) 0:=by
 have main:∀ (l:List Oper) (i:Nat),(l.zipIdx i).map (fun (o,i)=>(⟨o,i,(lget bf i).getD 0,effB o.op,rdB o.op,stF ((lget bf i).getD 0) ops 0 0 0,(ops.zipIdx).all fun (b,j)=>Nat.beq i j || !rdB b.op || Qbi bf i j,Bool.rec none (some i) (flB o.op),Bool.rec (Bool.rec false ((ops.zipIdx).all fun (b,j)=>Nat.beq i j || !rdB b.op || Qbi bf i j || Nat.beq (stF ((lget bf j).getD 0) ops 0 0 0) 0) (callB o.op)) false ((ops.zipIdx).all fun (b,j)=>Nat.beq i j || !rdB b.op || Qbi bf i j)⟩:Row))=rowsT l (tabF ops bf l i) i:=by
  intro l
  induction l with
  | nil=>intro i;rfl
  | cons o l ih=>intro i;show _ :: _=_ :: _;rw [ih (i+1)];rfl
 exact main ops 0
abbrev Sg:=G × ML × Option Nat
abbrev Pd2:=Nat × Nat × Blk
def StS (B:Base) (p:H × Option Nat) (q:Sg):Prop:=St B q.1 q.2.1 p.1∧p.2=q.2.2
inductive Stk (B:Base):List (H × Option Nat)→List Sg→Prop
 | one {p:H × Option Nat} {q:Sg}:StS B p q→Stk B [p] [q]
 | cons {p:H × Option Nat} {q:Sg} {l:List (H × Option Nat)} {k:List Sg}:StS B p q→Stk B l k→Stk B (p :: l) (q :: k)
theorem Stk.head {B:Base} {hs:List (H × Option Nat)} {q:Sg} {k:List Sg} (h:Stk B hs (q :: k)):∃ p l,hs=p :: l∧StS B p q:=by
 cases h with
 | one h=>exact ⟨_,_,rfl,h⟩
 | cons h _=>exact ⟨_,_,rfl,h⟩
theorem Stk.len {B:Base} {hs:List (H × Option Nat)} {k:List Sg} (h:Stk B hs k):hs.length=k.length:=by
 induction h with
 | one=>rfl
 | cons _ _ ih=>simp [ih]
theorem Stk.get {B:Base} {hs:List (H × Option Nat)} {k:List Sg} (h:Stk B hs k):∀ {i:Nat} {q:Sg},lget k i=some q→∃ p,lget hs i=some p∧StS B p q:=by
 induction h with
 | one h=>
   intro i q hq
   cases i with
   | zero=>cases hq;exact ⟨_,rfl,h⟩
   | succ i=>cases hq
 | cons h _ ih=>
   intro i q hq
   cases i with
   | zero=>cases hq;exact ⟨_,rfl,h⟩
   | succ i=>exact ih hq
def FrS (B:Base) (b:Nat):Nat→List Sg→Prop
 | 0,_=>True
 | k+1,(g,ml,some c) :: r=>(∀ h,St B g ml h→c≠b)∧FrS B b k r
 | k+1,(g,ml,none) :: r=>FrS B b k r
 | _+1,[]=>True
theorem neO_of {m:Option Nat} {b:Nat} (h:m≠some b):neO m b=true:=by
 cases m with
 | none=>rfl
 | some c=>
   show Bool.rec (motive:=fun _=>Bool) true false (Nat.beq c b)=true
   cases hb:Nat.beq c b with
   | false=>rfl
   | true=>exact absurd (by rw [Nat.eq_of_beq_eq_true hb]) h
theorem freeMs_of {B:Base} {b:Nat}:∀ {k:Nat} {hs:List (H × Option Nat)} {sg:List Sg},Stk B hs sg→FrS B b k sg→freeMs b k hs=true
 | 0,hs,sg,_,_=>rfl
 | k+1,hs,sg,h,hf=>by
   cases h with
   | one h1=>
     rename_i p q
     obtain ⟨g,ml,mu⟩:=q
     show Bool.rec (motive:=fun _=>Bool) false (freeMs b k []) (neO p.2 b)=true
     have hn:freeMs b k []=true:=by cases k <;> rfl
     rw [h1.2,hn]
     cases mu with
     | none=>rfl
     | some c=>rw [neO_of (m:=some c) (fun e=>hf.1 _ h1.1 (Option.some.inj e))]
   | cons h1 h2=>
     rename_i p q l r
     obtain ⟨g,ml,mu⟩:=q
     show Bool.rec (motive:=fun _=>Bool) false (freeMs b k l) (neO p.2 b)=true
     rw [h1.2]
     cases mu with
     | none=>exact freeMs_of h2 hf
     | some c=>rw [neO_of (m:=some c) (fun e=>hf.1 _ h1.1 (Option.some.inj e))];exact freeMs_of h2 hf.2
def FrL (B:Base) (g:G) (ml:ML) (anc c:Nat):List (Nat × Nat)→Prop
 | []=>True
 | p :: r=>(bit anc p.1=true∨∀ h,St B g ml h→c≠p.2)∧FrL B g ml anc c r
noncomputable def allA (anc:Nat) (ls:List (Nat × Nat)):Bool:=List.rec true (fun p _ ih=>Bool.rec false ih (bit anc p.1)) ls
theorem FrL.all {B:Base} {g:G} {ml:ML} {anc c:Nat}:∀ {ls:List (Nat × Nat)},allA anc ls=true→FrL B g ml anc c ls
 | [],_=>trivial
 | p :: r,h=>by
   have h:Bool.rec (motive:=fun _=>Bool) false (allA anc r) (bit anc p.1)=true:=h
   cases hb:bit anc p.1 with
   | false=>rw [hb] at h;cases h
   | true=>rw [hb] at h;exact ⟨.inl hb,FrL.all h⟩
theorem freeOf_of {B:Base} {g:G} {ml:ML} {anc c:Nat} {h:H} (s:St B g ml h):∀ {ls:List (Nat × Nat)},FrL B g ml anc c ls→Qdd anc (some c) ls=true
 | [],_=>rfl
 | p :: r,⟨h1,h2⟩=>by
   show Bool.rec (motive:=fun _=>Bool) (Bool.rec (motive:=fun _=>Bool) false (Qdd anc (some c) r) (neO (some c) p.2)) (Qdd anc (some c) r) (bit anc p.1)=true
   rw [freeOf_of s h2]
   cases hb:bit anc p.1 with
   | true=>rfl
   | false=>
     rcases h1 with h1 | h1
     ·rw [hb] at h1;cases h1
     ·rw [neO_of (m:=some c) (fun e=>h1 _ s (Option.some.inj e))]
theorem freeOf_none {anc:Nat}:∀ {ls:List (Nat × Nat)},Qdd anc none ls=true
 | []=>rfl
 | p :: r=>by
   show Bool.rec (motive:=fun _=>Bool) (Bool.rec (motive:=fun _=>Bool) false (Qdd anc none r) true) (Qdd anc none r) (bit anc p.1)=true
   rw [freeOf_none]
   cases bit anc p.1 <;> rfl
structure Free (B:Base) (h:H) (b:Nat):Prop where
 none:h.get b=none
 lt:b < h.n
 le:B.n≤b
noncomputable def pinF (anc:Nat) (ps:List Pd2):List Pd2:=List.rec [] (fun p _ ih=>Bool.rec ih (p :: ih) (bit anc p.1)) ps
noncomputable def mlA (ps:List Pd2) (ml:ML):ML:=List.rec ml (fun p _ ih=>.blk p.2.1 p.2.2 :: ih) ps
theorem mergeA_eq (anc:Nat) (h:H):∀ ps:List Pd2,Ev.mergeA anc ps h=mergeL (pinF anc ps) h
 | []=>rfl
 | p :: r=>by
   show Bool.rec (motive:=fun _=>H) (Ev.mergeA anc r h) ((Ev.mergeA anc r h).put p.2.1 p.2.2) (bit anc p.1)=mergeL (Bool.rec (motive:=fun _=>List Pd2) (pinF anc r) (p :: pinF anc r) (bit anc p.1)) h
   rw [mergeA_eq anc h r]
   cases bit anc p.1 <;> rfl
theorem St.merge1 {B:Base} {g:G} {ml:ML} {h:H} (s:St B g ml h) {b:Nat} {x:Blk} (f:Free B h b):St B g (.blk b x :: ml) (h.put b x):=by
 have gt:∀ k,(h.put b x).get k=if k=b then some x else h.get k:=H.get_put h b x
 have hg:g b=none:=by
  cases hg:g b with
  | none=>rfl
  | some y=>have:=s.sub b y hg;rw [f.none] at this;cases this
 have hnm:∀ r∈ml,b ∉ r.fp:=fun r hr hb=>by
  have:=s.own r hr
  cases r with
  | blk c y=>
    have e:b=c:=by simpa [Res.fp] using hb
    subst e
    have:h.get b=some y:=this
    rw [f.none] at this;cases this
  | acc v s' cs t=>
    rcases this with ⟨he,_⟩ | ⟨c,n,hv,_,h2⟩
    ·rcases he with rfl | rfl | ⟨_,_,rfl⟩ <;> simp [Res.fp] at hb
    ·have e:b=c:=by rcases hv with rfl | ⟨_,rfl,rfl⟩ <;> simpa [Res.fp] using hb
     subst e
     rw [f.none] at h2;cases h2
 have hnf:b ∉ fps ml:=fun hb=>by
  obtain ⟨r,hr,hb⟩:=List.mem_flatMap.1 (show b∈ml.flatMap Res.fp from hb)
  exact hnm r hr hb
 refine ⟨fun k hk=>?_,s.fl,s.fln,s.le,fun k hk hW=>?_,fun k z hz=>?_,s.vis,fun r hr=>?_,?_,fun k hk=>?_⟩
 ·rw [gt,if_neg (by have:h.n≤k:=hk;have:=f.lt;omega)];exact s.wf k hk
 ·rw [gt,if_neg (by have:=f.le;omega)];exact s.old k hk hW
 ·rw [gt,if_neg (fun e=>by subst e;rw [hg] at hz;cases hz)];exact s.sub k z hz
 ·rcases List.mem_cons.1 hr with rfl | hr2
  · show (h.put b x).get b=some x
    rw [gt,if_pos rfl]
  · exact Res.ok_same (fun k hk=>by rw [gt,if_neg (fun (e:k=b)=>hnm r hr2 (e ▸ hk))]) (s.own r hr2)
 ·rw [Qat];show (b :: fps ml).Nodup;exact List.nodup_cons.2 ⟨hnf,s.nd⟩
 ·rw [Qat] at hk
  rcases List.mem_cons.1 hk with rfl | hk
  · exact ⟨hg,Nat.le_trans s.fln f.le,f.lt,fun hlt=>absurd f.le (by omega)⟩
  · exact s.fresh k hk
theorem Free.put {B:Base} {h:H} {b c:Nat} {x:Blk} (f:Free B h b) (hn:b≠c):Free B (h.put c x) b:=⟨by rw [H.get_put,if_neg hn];exact f.none,f.lt,f.le⟩
theorem St.mergeL {B:Base} {g:G} {ml:ML} {h:H} (s:St B g ml h):∀ {ps:List Pd2},(∀ p∈ps,Free B h p.2.1)→ps.Pairwise (fun p q=>p.2.1≠q.2.1)→St B g (mlA ps ml) (Ev.mergeL ps h)∧(∀ b,Free B h b→(∀ p∈ps,b≠p.2.1)→Free B (Ev.mergeL ps h) b)∧(Ev.mergeL ps h).n=h.n
 | [],_,_=>⟨s,fun _ f _=>f,rfl⟩
 | p :: ps,hf,hp=>by
   obtain ⟨h1,h2,h3⟩:=St.mergeL s (ps:=ps) (fun q hq=>hf q (List.mem_cons_of_mem _ hq)) (List.pairwise_cons.1 hp).2
   have f:=h2 _ (hf p List.mem_cons_self) fun q hq=>(List.pairwise_cons.1 hp).1 q hq
   exact ⟨h1.merge1 f,fun b fb hb=>(h2 b fb fun q hq=>hb q (List.mem_cons_of_mem _ hq)).put (hb p List.mem_cons_self),h3⟩
end Go.Ev
namespace Go.Ev
open Go
set_option linter.unusedVariables false
set_option linter.unusedSimpArgs false
def Kp (h h':H):Prop:=h.n≤h'.n∧∀ k,k < h.n→h.get k=none→h'.get k=none
theorem Kp.refl (h:H):Kp h h:=⟨Nat.le_refl _,fun _ _ h=>h⟩
theorem Kp.put {h:H} {b:Nat} {x y:Blk} (hb:h.get b=some y):Kp h (h.put b x):=⟨Nat.le_refl _,fun k _ hn=>by
 rw [H.get_put,if_neg (fun e=>by subst e;rw [hn] at hb;cases hb)];exact hn⟩
theorem Kp.new {h:H} {x:Blk}:Kp h (h.new x):=⟨Nat.le_succ _,fun k hk hn=>by rw [H.get_new,if_neg (by omega)];exact hn⟩
theorem Kp.trans {a b c:H} (h:Kp a b) (k:Kp b c):Kp a c:=⟨Nat.le_trans h.1 k.1,fun i hi hn=>k.2 i (Nat.lt_of_lt_of_le hi h.1) (h.2 i hi hn)⟩
theorem Free.kp {B:Base} {h h':H} {b:Nat} (f:Free B h b) (k:Kp h h'):Free B h' b:=⟨k.2 b f.lt f.none,Nat.lt_of_lt_of_le f.lt k.1,f.le⟩
theorem putV_kp {h h':H} {b o:Nat} {vs:List V} (hp:putV h b o vs=some h'):Kp h h':=by
 unfold putV at hp
 split at hp
 ·rename_i c t hb
  split at hp
  ·cases hp;exact .put hb
  ·cases hp
 ·cases hp
section
variable {P:Program}
theorem appendV_kp {h h':H} {t xT:TypeId} {x y v:V} (hp:appendV P h t xT x y=some (v,h')):Kp h h':=by
 unfold appendV at hp
 split at hp
 ·split at hp
  ·split at hp
   ·rename_i m cs _
    cases hm:Nat.beq m 0 with
    | true=>
      rw [hm] at hp
      have hp:app0 h x=some (v,h'):=hp
      unfold app0 at hp
      split at hp
      ·cases hp;exact .refl _
      ·split at hp
       ·cases hp;exact .refl _
       ·cases hp
      ·cases hp;exact .refl _
      ·cases hp;exact .refl _
      ·cases hp;exact .refl _
      ·cases hp
    | false=>
      rw [hm] at hp
      have hp:app1 h _ _ m cs x=some (v,h'):=hp
      unfold app1 at hp
      split at hp
      ·split at hp
       ·cases hp;exact .new
       ·cases hp
      ·unfold appSl at hp
       split at hp
       ·split at hp
        ·rename_i h2 hq;cases hp;exact putV_kp hq
        ·cases hp
       ·split at hp
        ·split at hp
         ·cases hp;exact .new
         ·cases hp
        ·split at hp
         ·split at hp
          ·cases hp;exact .new
          ·cases hp
         ·cases hp
      ·unfold appSu at hp
       split at hp
       ·rename_i hb
        split at hp
        ·cases hp;exact (Kp.put hb).trans .new
        ·cases hp
       ·cases hp
      ·split at hp
       ·cases hp;exact .new
       ·cases hp
      ·cases hp
   ·cases hp
  ·cases hp
 ·cases hp
theorem opV_kp {h h':H} {r:Operand→V} {o:Op} {v:V} (he:effB o=true) (hv:opV P h r o=some (v,h')):Kp h h':=by
 cases o with
 | store t a x=>
   simp only [opV,sto] at hv
   split at hv
   ·rename_i h1 hs
    cases hv
    unfold storeV at hs
    split at hs
    ·split at hs
     ·exact putV_kp hs
     ·cases hs
    ·cases hs
   ·cases hv
 | call c=>
   simp only [opV,callV] at hv
   split at hv
   ·rename_i b hc
    unfold biV at hv
    split at hv
    ·unfold bi1 at hv
     split at hv
     ·simp [effB,hc] at he
     ·cases hv
    ·unfold bi2 at hv
     split at hv
     ·exact appendV_kp hv
     ·simp [effB,hc] at he
     ·simp [effB,hc] at he
     ·cases hv
    ·cases hv
   ·cases hv
 | _=>cases he
end
structure Rs (B:Base) (K n0:Nat) (l:List Oper) (i:Nat) (sg:List Sg) (ls:List (Nat × Nat)) (ps:List Pd2) (S:Ms):Prop where
 eL:S.ls=ls
 eP:S.ps=ps
 hs:Stk B S.hs sg
 res:∀ h m rest,S.hs=(h,m) :: rest→(∀ k o,l[k]? =some o→flB o.op=true→Free B h (n0+(i+k)))∧∀ p∈ps,Free B h p.2.1
 pb:∀ p∈ps,p.2.1=n0+p.1∧p.1 < i
 pp:ps.Pairwise fun p q=>p.2.1≠q.2.1
 kk:kOf S.hs=K
 kf:B.fl≤K
 kb:∀ h m rest,S.hs=(h,m) :: rest→K≤h.n
section
variable (P:Program) (nat:Nats)
def Wd (K N:Nat) (B:Base) (ops l:List Oper) (tb:List Ri) (i:Nat) (al:AL) (sg:List Sg) (ls:List (Nat × Nat)) (ps:List Pd2) (Q:OQ):Prop:=
 ∀ n0 tm S,Kn tm al→Rs B K n0 l i sg ls ps S→∃ n tm' S',Qdf P (ev P nat n) n0 N ops (rowsT l tb i) tm S=some (tm',S')∧∃ h m rest,S'.hs=(h,m) :: rest∧∃ al' g' ml',Kn tm' al'∧St B g' ml' (mergeL S'.ps h)∧Q al' g' ml'
end
section
variable {P:Program} {nat:Nats} {ro:Option Nat} {K N:Nat} {B:Base} {al:AL} {ops l:List Oper} {a:Ri} {tb:List Ri} {i:Nat} {sg:List Sg} {ls:List (Nat × Nat)} {ps:List Pd2} {R:OQ} {d ty:Nat} {pos:String} {af:Array Edge} {gd:Option (Nat × Bool)}
theorem Qcf {go:Task→Option Out} {n0:Nat} {o:Oper} (tm:TT V) (S:Ms):Qdf P go n0 N ops (rowsT (o :: l) (a :: tb) i) tm S=Qcx P go n0 N ops (rowT o a i) (Qdf P go n0 N ops (rowsT l tb (i+1))) tm S:=rfl
theorem Rs.next {n0:Nat} {o:Oper} {S:Ms} (h:Rs B K n0 (o :: l) i sg ls ps S):Rs B K n0 l (i+1) sg ls ps S:=
 ⟨h.eL,h.eP,h.hs,fun m q rest e=>⟨fun k o2 h1 h2=>by
  have:=(h.res m q rest e).1 (k+1) o2 h1 h2
  rwa [show n0+(i+(k+1))=n0+(i+1+k) by omega] at this,(h.res m q rest e).2⟩,fun p hp=>⟨(h.pb p hp).1,Nat.lt_succ_of_lt (h.pb p hp).2⟩,h.pp,h.kk,h.kf,h.kb⟩
theorem Rs.kc {n0:Nat} {S:Ms} (h:Rs B K n0 l i sg ls ps S) (p:H × Option Nat):kOf (p :: S.hs)=K:=by
 have h1:=h.kk
 have h2:=h.hs
 cases hs:S.hs with
 | nil=>rw [hs] at h2;cases h2
 | cons q l2=>rw [hs] at h1;exact h1
theorem Wd.nil {g:G} {ml:ML} {mu:Option Nat} {rest:List Sg} (h:R al g (mlA ps ml)):Wd P nat K N B ops [] [] i al ((g,ml,mu) :: rest) ls ps R:=fun n0 tm S hk r=>by
 obtain ⟨p,l2,e,hst⟩:=r.hs.head
 refine ⟨0,tm,S,rfl,p.1,p.2,l2,e,al,g,mlA ps ml,hk,?_,h⟩
 rw [r.eP]
 exact (hst.1.mergeL (r.res p.1 p.2 l2 e).2 r.pp).1
theorem Wd.sub {al':AL} (hs:SubL al al') (h:Wd P nat K N B ops l tb i al' sg ls ps R):Wd P nat K N B ops l tb i al sg ls ps R:=fun n0 tm S hk r=>h n0 tm S (hk.sub hs) r
theorem Wd.p {o:Op} {v:V} (hg:Gd ops al gd) (hd:Nat.blt d N=true) (hp:OpP P al o v) (he:effB o=false) (hr:rdB o=false) (hf:flB o=false)
  (k:Wd P nat K N B ops l tb (i+1) ((d,v) :: al) sg ls ps R):Wd P nat K N B ops (⟨some d,o,ty,pos,af,gd⟩ :: l) (a :: tb) i al sg ls ps R:=fun n0 tm S hk r=>by
 obtain ⟨n,tm2,S2,r2,q⟩:=k n0 (tm.set d v) S (hk.set d v) r.next
 refine ⟨n,tm2,S2,?_,q⟩
 rw [Qcf]
 unfold Qcx
 have:∃ p l2,S.hs=p :: l2:=by cases hs:S.hs with
  | nil=>have:=r.hs;rw [hs] at this;cases this
  | cons p l2=>exact ⟨p,l2,rfl⟩
 obtain ⟨⟨m,mu⟩,l2,e⟩:=this
 rw [e]
 simp only [rowT,Gd.want (o:=⟨some d,o,ty,pos,af,gd⟩) hk hg]
 simp only [oneD,he,plD,hf,hr,hp.2 tm m hk,keepS,Qcl hd]
 exact r2
theorem Wd.skip {o:Op} (hg:Gs ops al gd) (hd:Nat.blt d N=true) (he:effB o=false)
  (k:Wd P nat K N B ops l tb (i+1) ((d,.tup []) :: al) sg ls ps R):Wd P nat K N B ops (⟨some d,o,ty,pos,af,gd⟩ :: l) (a :: tb) i al sg ls ps R:=fun n0 tm S hk r=>by
 obtain ⟨n,tm2,S2,r2,q⟩:=k n0 (tm.set d (.tup [])) S (hk.set d _) r.next
 refine ⟨n,tm2,S2,?_,q⟩
 rw [Qcf]
 unfold Qcx
 have:∃ p l2,S.hs=p :: l2:=by cases hs:S.hs with
  | nil=>have:=r.hs;rw [hs] at this;cases this
  | cons p l2=>exact ⟨p,l2,rfl⟩
 obtain ⟨⟨m,mu⟩,l2,e⟩:=this
 rw [e]
 simp only [rowT,Gs.want (o:=⟨some d,o,ty,pos,af,gd⟩) hk hg,Qcl hd,skipS,he]
 exact r2
theorem Rs.dup {n0:Nat} {S:Ms} {m:H} {mu:Option Nat} {l2:List (H × Option Nat)} (h:Rs B K n0 l i sg ls ps S) (e:S.hs=(m,mu) :: l2) {g:G} {ml:ML} {nu:Option Nat} {rest:List Sg} (hsg:sg=(g,ml,nu) :: rest):Rs B K n0 l i ((g,ml,none) :: sg) ls ps ⟨(m,none) :: S.hs,S.ls,S.ps⟩:=by
 subst hsg
 obtain ⟨p,l3,e2,hst⟩:=h.hs.head
 rw [e] at e2
 cases e2
 refine ⟨h.eL,h.eP,.cons ⟨hst.1,rfl⟩ h.hs,fun h2 m2 r2 e3=>?_,h.pb,h.pp,h.kc _,h.kf,fun h2 m2 r2 e3=>by cases e3;exact h.kb m mu l2 e⟩
 cases e3
 exact h.res m mu l2 e
theorem Wd.skipE {o:Op} {g:G} {ml:ML} {mu:Option Nat} {rest:List Sg} (hg:Gs ops al gd) (hd:Nat.blt d N=true) (he:effB o=true)
  (k:Wd P nat K N B ops l tb (i+1) ((d,.tup []) :: al) ((g,ml,none) :: (g,ml,mu) :: rest) ls ps R):Wd P nat K N B ops (⟨some d,o,ty,pos,af,gd⟩ :: l) (a :: tb) i al ((g,ml,mu) :: rest) ls ps R:=fun n0 tm S hk r=>by
 obtain ⟨⟨m,nu⟩,l2,e,_⟩:=r.hs.head
 obtain ⟨n,tm2,S2,r2,q⟩:=k n0 (tm.set d (.tup [])) _ (hk.set d _) (r.next.dup e rfl)
 refine ⟨n,tm2,S2,?_,q⟩
 rw [Qcf]
 unfold Qcx
 rw [e]
 simp only [rowT,Gs.want (o:=⟨some d,o,ty,pos,af,gd⟩) hk hg,Qcl hd,skipS,he]
 exact r2
theorem Wd.ld {t:TypeId} {x:Operand} {b:Nat} {v:V} {k:Nat} {g:G} {ml:ML} {mu:Option Nat} (hg:Gd ops al gd) (hd:Nat.blt d N=true) (hk0:sg.length - 1 - a.st=k) (hq:lget sg k=some (g,ml,mu)) (hf:FrS B b k sg) (hp:OpL P al g ml t x b v)
  (kk:Wd P nat K N B ops l tb (i+1) ((d,v) :: al) sg ((i,b) :: ls) ps R):Wd P nat K N B ops (⟨some d,.load t x,ty,pos,af,gd⟩ :: l) (a :: tb) i al sg ls ps R:=fun n0 tm S hk r=>by
 have rn:=r.next
 obtain ⟨n,tm2,S2,r2,q⟩:=kk n0 (tm.set d v) ⟨S.hs,(i,b) :: S.ls,S.ps⟩ (hk.set d v) ⟨by rw [r.eL],r.eP,r.hs,rn.res,rn.pb,rn.pp,r.kk,r.kf,r.kb⟩
 refine ⟨n,tm2,S2,?_,q⟩
 rw [Qcf]
 unfold Qcx
 have:∃ p l2,S.hs=p :: l2:=by cases hs:S.hs with
  | nil=>have:=r.hs;rw [hs] at this;cases this
  | cons p l2=>exact ⟨p,l2,rfl⟩
 obtain ⟨⟨m,mu2⟩,l2,e⟩:=this
 obtain ⟨o,cs,tt,h1,h2,h3⟩:=hp
 obtain ⟨⟨h0,m0⟩,e0,st0⟩:=r.hs.get hq
 have hlen:llen S.hs - 1 - a.st=k:=by rw [Qas,r.hs.len];exact hk0
 have hload:opV P h0 (ev0 tm) (.load t x)=some (v,h0):=by simp only [opV,hk.ev h1,loadV_of (st0.1.get h2) h3];rfl
 have hone:oneD P (ev P nat n) n0 (ev0 tm) (rowT ⟨some d,.load t x,ty,pos,af,gd⟩ a i) S m=some (v,⟨S.hs,(i,b) :: S.ls,S.ps⟩):=by
  show rdD P (ev0 tm) (rowT ⟨some d,.load t x,ty,pos,af,gd⟩ a i) S (blkV (ev0 tm x))=_
  rw [hk.ev h1]
  show rdD P (ev0 tm) (rowT ⟨some d,.load t x,ty,pos,af,gd⟩ a i) S (some b)=_
  unfold rdD
  show (match freeMs b (llen S.hs - 1 - a.st) S.hs with | true=>(match lget S.hs (llen S.hs - 1 - a.st) with | some (h0,_)=>keepS ⟨S.hs,(i,b) :: S.ls,S.ps⟩ (opV P h0 (ev0 tm) (.load t x)) | none=>none) | false=>none)=_
  rw [hlen,freeMs_of r.hs hf,e0]
  simp only [hload,keepS]
 simp only [e]
 have hw:=Gd.want (o:=⟨some d,.load t x,ty,pos,af,gd⟩) hk hg
 show (match wantV ops (tget tm) ⟨some d,.load t x,ty,pos,af,gd⟩ with | some true=>_ | some false=>_ | none=>none)=_
 rw [hw]
 simp only [hone]
 show (match putT N tm v (some d) with | some tm'=>_ | none=>none)=_
 rw [Qcl hd]
 exact r2
theorem Wd.f {o:Op} {f:Nat→V} {x:Blk} (hg:Gd ops al gd) (hd:Nat.blt d N=true) (hp:OpF P al o f x)
  (k:∀ b,Wd P nat K N B ops l tb (i+1) ((d,f b) :: al) sg ls ((i,b,x) :: ps) R):Wd P nat K N B ops (⟨some d,o,ty,pos,af,gd⟩ :: l) (a :: tb) i al sg ls ps R:=fun n0 tm S hk r=>by
 have rn:=r.next
 obtain ⟨n,tm2,S2,r2,q⟩:=k (n0+i) n0 (tm.set d (f (n0+i))) ⟨S.hs,S.ls,(i,n0+i,x) :: S.ps⟩ (hk.set d _) ⟨r.eL,by rw [r.eP],r.hs,fun h m rest e=>⟨(rn.res h m rest e).1,fun p hp2=>by
    rcases List.mem_cons.1 hp2 with rfl | hp2
    ·exact (r.res h m rest e).1 0 _ rfl hp.1
    ·exact (rn.res h m rest e).2 p hp2⟩,fun p hp2=>by
    rcases List.mem_cons.1 hp2 with rfl | hp2
    ·exact ⟨rfl,Nat.lt_succ_self _⟩
    ·exact rn.pb p hp2,List.pairwise_cons.2 ⟨fun q hq=>by have:=r.pb q hq;show n0+i≠q.2.1;omega,r.pp⟩,r.kk,r.kf,r.kb⟩
 refine ⟨n,tm2,S2,?_,q⟩
 rw [Qcf]
 unfold Qcx
 have:∃ p l2,S.hs=p :: l2:=by cases hs:S.hs with
  | nil=>have:=r.hs;rw [hs] at this;cases this
  | cons p l2=>exact ⟨p,l2,rfl⟩
 obtain ⟨⟨m,mu2⟩,l2,e⟩:=this
 have he:effB o=false:=by cases o <;> first | rfl | (have:=hp.1;cases this)
 have hone:oneD P (ev P nat n) n0 (ev0 tm) (rowT ⟨some d,o,ty,pos,af,gd⟩ a i) S m=some (f (n0+i),⟨S.hs,S.ls,(i,n0+i,x) :: S.ps⟩):=by
  unfold oneD
  simp only [rowT,he,hp.1,plD,hp.2 tm ⟨.lf,n0+i,0⟩ hk,flD2]
  rw [H.get_new,if_pos rfl]
 simp only [e]
 have hw:=Gd.want (o:=⟨some d,o,ty,pos,af,gd⟩) hk hg
 show (match wantV ops (tget tm) ⟨some d,o,ty,pos,af,gd⟩ with | some true=>_ | some false=>_ | none=>none)=_
 rw [hw]
 simp only [hone]
 show (match putT N tm _ (some d) with | some tm'=>_ | none=>none)=_
 rw [Qcl hd]
 exact r2
theorem mergeA_st {g:G} {ml:ML} {h:H} {n0:Nat} {S:Ms} {m:Option Nat} {rest:List (H × Option Nat)} (r:Rs B K n0 l i sg ls ps S) (e:S.hs=(h,m) :: rest) (s:St B g ml h) (anc:Nat) {pin pout:List Pd2} (h1:pinF anc ps=pin) (h2:restA anc ps=pout):
  St B g (mlA pin ml) (Ev.mergeA anc ps h)∧(Ev.mergeA anc ps h).n=h.n∧(Ev.mergeA anc ps h).fl=h.fl∧(∀ k o,l[k]? =some o→flB o.op=true→Free B (Ev.mergeA anc ps h) (n0+(i+k)))∧(∀ p∈pout,Free B (Ev.mergeA anc ps h) p.2.1)∧(∀ p∈pout,p∈ps)∧pout.Pairwise fun p q=>p.2.1≠q.2.1:=by
 subst h1 h2
 rw [mergeA_eq]
 have hsub:∀ q:List Pd2,(∀ p∈pinF anc q,p∈q∧bit anc p.1=true)∧(pinF anc q).Sublist q:=by
  intro q
  induction q with
  | nil=>exact ⟨fun p hp=>(by cases hp),List.Sublist.refl _⟩
  | cons p q ih=>
    have e:pinF anc (p :: q)=Bool.rec (motive:=fun _=>List Pd2) (pinF anc q) (p :: pinF anc q) (bit anc p.1):=rfl
    rw [e]
    cases hb:bit anc p.1 with
    | false=>exact ⟨fun x hx=>⟨List.mem_cons_of_mem _ (ih.1 x hx).1,(ih.1 x hx).2⟩,ih.2.cons _⟩
    | true=>exact ⟨fun x hx=>by
       rcases List.mem_cons.1 hx with rfl | hx
       ·exact ⟨List.mem_cons_self,hb⟩
       ·exact ⟨List.mem_cons_of_mem _ (ih.1 x hx).1,(ih.1 x hx).2⟩,ih.2.cons_cons _⟩
 obtain ⟨f1,f2⟩:=r.res h m rest e
 have rm:=fun (p:Pd2) (hp:p∈restA anc ps)=>restA_mem hp
 have hpi:=hsub ps
 obtain ⟨s1,s2,s3⟩:=s.mergeL (ps:=pinF anc ps) (fun p hp=>f2 p (hpi.1 p hp).1) (r.pp.sublist hpi.2)
 have sfl:(Ev.mergeL (pinF anc ps) h).fl=h.fl:=s1.fl.trans s.fl.symm
 refine ⟨s1,s3,sfl,fun k o h1 h2=>s2 _ (f1 k o h1 h2) fun p hp=>?_,fun p hp=>s2 _ (f2 p (rm p hp).1) fun q hq=>?_,fun p hp=>(rm p hp).1,r.pp.sublist (restA_sub ps)⟩
 ·have:=r.pb p (hpi.1 p hp).1;omega
 ·have h3:=(hpi.1 q hq).2
  have h4:=(rm p hp).2
  have h5:=r.pb p (rm p hp).1
  have h6:=r.pb q (hpi.1 q hq).1
  intro e
  have:p.1=q.1:=by omega
  rw [this,h3] at h4;cases h4
theorem Wd.eff {o:Op} {g:G} {ml:ML} {mu mo:Option Nat} {rest:List Sg} {pin pout:List Pd2} {mlf:V→ML} {od:Option Nat} (hg:Gd ops al gd) (he:effB o=true) (hc:Qbk o=none) (h1:pinF a.anc ps=pin) (h2:restA a.anc ps=pout)
  (hmo:∀ tm,Kn tm al→modO (ev0 tm) o=mo) (hfr:∀ c,mo=some c→FrL B g (mlA pin ml) a.anc c ls)
  (hp:∀ tm h,Kn tm al→St B g (mlA pin ml) h→∃ v h',opV P h (ev0 tm) o=some (v,h')∧St B g (mlf v) h')
  (k:∀ v n0 tm S,Kn tm al→Rs B K n0 l (i+1) ((g,mlf v,mo) :: (g,ml,mu) :: rest) ls pout S→∃ n tm2 tm' S',putT N tm v od=some tm2∧Qdf P (ev P nat n) n0 N ops (rowsT l tb (i+1)) tm2 S=some (tm',S')∧∃ h m rest,S'.hs=(h,m) :: rest∧∃ al' g' ml',Kn tm' al'∧St B g' ml' (mergeL S'.ps h)∧R al' g' ml'):
  Wd P nat K N B ops (⟨od,o,ty,pos,af,gd⟩ :: l) (a :: tb) i al ((g,ml,mu) :: rest) ls ps R:=fun n0 tm S hk r=>by
 obtain ⟨⟨m,nu⟩,l2,e,hst⟩:=r.hs.head
 obtain ⟨s1,sn,sfl,sf1,sf2,sin,spp⟩:=mergeA_st r.next e hst.1 a.anc h1 h2
 obtain ⟨v,h',hv,s'⟩:=hp tm _ hk s1
 have kp:=opV_kp he hv
 have rs:Rs B K n0 l (i+1) ((g,mlf v,mo) :: (g,ml,mu) :: rest) ls pout ⟨(h',mo) :: S.hs,S.ls,restA a.anc S.ps⟩:=by
  refine ⟨r.eL,by show restA a.anc S.ps=pout;rw [r.eP,h2],.cons ⟨s',rfl⟩ r.hs,fun h3 m3 r3 e3=>?_,fun p hp=>r.next.pb p (sin p hp),spp,r.kc _,r.kf,fun h3 m3 r3 e3=>by cases e3;exact Nat.le_trans (r.kb m nu l2 e) (sn ▸ kp.1)⟩
  cases e3
  exact ⟨fun k o2 a1 a2=>(sf1 k o2 a1 a2).kp kp,fun p hp=>(sf2 p hp).kp kp⟩
 obtain ⟨n,tm2,tm',S',hput,r2,q⟩:=k v n0 tm _ hk rs
 refine ⟨n,tm',S',?_,q⟩
 rw [Qcf]
 unfold Qcx
 rw [e]
 have hw:=Gd.want (o:=⟨od,o,ty,pos,af,gd⟩) hk hg
 show (match wantV ops (tget tm) ⟨od,o,ty,pos,af,gd⟩ with | some true=>_ | some false=>_ | none=>none)=_
 rw [hw]
 have hone:oneD P (ev P nat n) n0 (ev0 tm) (rowT ⟨od,o,ty,pos,af,gd⟩ a i) S m=some (v,⟨(h',mo) :: S.hs,S.ls,restA a.anc S.ps⟩):=by
  unfold oneD
  simp only [rowT,he]
  unfold effE
  simp only [hc,effD,hmo tm hk]
  have hfree:Qdd a.anc mo S.ls=true:=by
    rw [r.eL]
    cases hmo2:mo with
    | none=>exact freeOf_none
    | some c=>exact freeOf_of s1 (hfr c hmo2)
  rw [hfree,r.eP]
  simp only [hv,addH]
 simp only [hone]
 show (match putT N tm v od with | some tm'=>_ | none=>none)=_
 rw [hput]
 exact r2
theorem Wd.st {t:TypeId} {x y:Operand} {g:G} {ml ml':ML} {mu:Option Nat} {rest:List Sg} {pin pout:List Pd2} {b o n tt:Nat} {v:V} {vs cs cs':List V} (hg:Gd ops al gd) (h1:pinF a.anc ps=pin) (h2:restA a.anc ps=pout)
  (hx:vA al x=some (.p b o)) (hy:vA al y=some v) (hn:v.any? =false) (hc:v.cells=vs) (hs:szO P t=some n) (hv:llen vs=n) (h3:setL cs o vs=cs') (hr:Rp (.blk b (.cells cs tt)) (.blk b (.cells cs' tt)) (mlA pin ml) ml') (hl:Nat.ble (o+n) (llen cs)=true) (ha:Qb vs=true)
  (hfr:FrL B g (mlA pin ml) a.anc b ls)
  (k:Wd P nat K N B ops l tb (i+1) al ((g,ml',some b) :: (g,ml,mu) :: rest) ls pout R):
  Wd P nat K N B ops (⟨none,.store t x y,ty,pos,af,gd⟩ :: l) (a :: tb) i al ((g,ml,mu) :: rest) ls ps R:=
 Wd.eff (mo:=some b) (mlf:=fun _=>ml') hg rfl rfl h1 h2 (fun tm hk=>by simp only [modO,hk.ev hx,blkV]) (fun c e=>by cases e;exact hfr)
  (fun tm h hk s=>by obtain ⟨h',q1,q2⟩:=OpM.store hx hy hn hc hs hv h3 hr hl ha tm h hk s;exact ⟨_,h',q1,q2⟩)
  (fun v n0 tm S hk r=>by obtain ⟨n,tm',S',q1,q2⟩:=k n0 tm S hk r;exact ⟨n,tm,tm',S',rfl,q1,q2⟩)
theorem Wd.x {o:Op} {g:G} {ml:ML} {mu mo:Option Nat} {rest:List Sg} {pin pout:List Pd2} {mlf:V→ML} (hg:Gd ops al gd) (hd:Nat.blt d N=true) (he:effB o=true) (h1:pinF a.anc ps=pin) (h2:restA a.anc ps=pout)
  (hmo:∀ tm,Kn tm al→modO (ev0 tm) o=mo) (hfr:∀ c,mo=some c→FrL B g (mlA pin ml) a.anc c ls)
  (hp:OpX P B al g (mlA pin ml) o mlf)
  (k:∀ v,Wd P nat K N B ops l tb (i+1) ((d,v) :: al) ((g,mlf v,mo) :: (g,ml,mu) :: rest) ls pout R):
  Wd P nat K N B ops (⟨some d,o,ty,pos,af,gd⟩ :: l) (a :: tb) i al ((g,ml,mu) :: rest) ls ps R:=
 Wd.eff hg he hp.1 h1 h2 hmo hfr hp.2
  (fun v n0 tm S hk r=>by obtain ⟨n,tm',S',q1,q2⟩:=k v n0 (tm.set d v) S (hk.set d v) r;exact ⟨n,_,tm',S',Qcl hd,q1,q2⟩)
theorem Wd.callK {f:Operand} {xs:Array Operand} {ats:Array TypeId} {g:G} {ml:ML} {mu:Option Nat} {rest:List Sg} {pin pout:List Pd2} {fv:V} {args:List V} {Post:G→ML→V→Prop} (hg:Gd ops al gd) (hd:Nat.blt d N=true) (h1:pinF a.anc ps=pin) (h2:restA a.anc ps=pout)
  (hf:vA al f=some fv) (hx:vAs al xs.toList=some args) (hw:Fw P nat fv args g [] Post)
  (k:∀ g' ml' r,Le g g'→Post g' ml' r→(∀ b∈fps ml',K≤b)→Wd P nat K N B ops l tb (i+1) ((d,r) :: al) ((g',ml' ++ mlA pin ml,none) :: (g,ml,mu) :: rest) ls pout R):
  Wd P nat K N B ops (⟨some d,.call ⟨.value f,xs,ats⟩,ty,pos,af,gd⟩ :: l) (a :: tb) i al ((g,ml,mu) :: rest) ls ps R:=fun n0 tm S hk r=>by
 obtain ⟨⟨m,nu⟩,l2,e,hst⟩:=r.hs.head
 obtain ⟨s1,sn,sfl,sf1,sf2,sin,spp⟩:=mergeA_st r.next e hst.1 a.anc h1 h2
 generalize hM:Ev.mergeA a.anc ps m=M at s1 sn sfl sf1 sf2
 have main:∃ n1 v h' g' ml',(match a.full with
     | true=>addH ⟨S.hs,S.ls,restA a.anc S.ps⟩ none (valO (ev P nat n1 (.call fv args M)))
     | false=>addH ⟨S.hs,S.ls,restA a.anc S.ps⟩ none (lower M.fl (valO (ev P nat n1 (.call fv args (raise (kR ⟨S.hs,S.ls,restA a.anc S.ps⟩ (rowT ⟨some d,.call ⟨.value f,xs,ats⟩,ty,pos,af,gd⟩ a i) M) M))))))=some (v,⟨(h',none) :: S.hs,S.ls,restA a.anc S.ps⟩)∧(∀ n2,n1≤n2→(match a.full with
     | true=>addH ⟨S.hs,S.ls,restA a.anc S.ps⟩ none (valO (ev P nat n2 (.call fv args M)))
     | false=>addH ⟨S.hs,S.ls,restA a.anc S.ps⟩ none (lower M.fl (valO (ev P nat n2 (.call fv args (raise (kR ⟨S.hs,S.ls,restA a.anc S.ps⟩ (rowT ⟨some d,.call ⟨.value f,xs,ats⟩,ty,pos,af,gd⟩ a i) M) M))))))=some (v,⟨(h',none) :: S.hs,S.ls,restA a.anc S.ps⟩))∧St B g' (ml' ++ mlA pin ml) h'∧Kp M h'∧Le g g'∧Post g' ml' v∧∀ b∈fps ml',K≤b:=by
  have s0:St (Base.at M g []) g [] M:=s1.self [] ⟨mlA pin ml,by simp⟩
  have kM:K≤M.n:=by rw [sn];exact r.kb m nu l2 e
  have nw:∀ {g':G} {ml':ML} {h':H} {fl:Nat},St (Base.at (⟨M.t,M.n,fl⟩:H) g []) g' ml' h'→∀ b∈fps ml',K≤b:=fun k1 b hb=>by
    obtain ⟨_,_,_,f4⟩:=k1.fresh b hb
    rcases Nat.lt_or_ge b M.n with h | h
    ·cases f4 h
    ·exact Nat.le_trans kM h
  cases a.full with
  | true=>
    obtain ⟨v,h',g',ml',⟨n1,r1⟩,k1,k2,k3⟩:=hw M s0
    have q:∀ n2,n1≤n2→addH ⟨S.hs,S.ls,restA a.anc S.ps⟩ none (valO (ev P nat n2 (.call fv args M)))=some (v,⟨(h',none) :: S.hs,S.ls,restA a.anc S.ps⟩):=fun n2 hn=>by rw [ev_le hn _ _ r1];rfl
    refine ⟨n1,v,h',g',ml',q n1 (Nat.le_refl _),q,?_,⟨k1.le,fun b hb hn=>(k1.old b hb (by intro h;cases h)).trans hn⟩,k2,k3,nw k1⟩
    exact (St.frame (F:=mlA pin ml) (I:=[]) (by rw [List.append_nil];exact s1) k1).perm List.perm_append_comm
  | false=>
    have hkr:M.fl≤kR ⟨S.hs,S.ls,restA a.anc S.ps⟩ (rowT ⟨some d,.call ⟨.value f,xs,ats⟩,ty,pos,af,gd⟩ a i) M∧kR ⟨S.hs,S.ls,restA a.anc S.ps⟩ (rowT ⟨some d,.call ⟨.value f,xs,ats⟩,ty,pos,af,gd⟩ a i) M≤M.n:=by
     unfold kR
     cases (rowT ⟨some d,.call ⟨.value f,xs,ats⟩,ty,pos,af,gd⟩ a i).half with
     | false=>exact ⟨s0.fln,Nat.le_refl _⟩
     | true=>
       refine ⟨?_,?_⟩
       ·show M.fl≤kOf S.hs
        rw [r.kk,sfl,hst.1.fl]
        exact r.kf
       ·show kOf S.hs≤M.n
        rw [r.kk]
        exact kM
    have s00:St (Base.at (raise (kR ⟨S.hs,S.ls,restA a.anc S.ps⟩ (rowT ⟨some d,.call ⟨.value f,xs,ats⟩,ty,pos,af,gd⟩ a i) M) M) g []) g [] (raise (kR ⟨S.hs,S.ls,restA a.anc S.ps⟩ (rowT ⟨some d,.call ⟨.value f,xs,ats⟩,ty,pos,af,gd⟩ a i) M) M):=⟨s0.wf,rfl,hkr.2,Nat.le_refl _,fun _ _ _=>rfl,s0.sub,fun _ _ hx _=>.inl hx,fun r hr=>(by cases hr),List.nodup_nil,fun b hb=>(by cases hb)⟩
    obtain ⟨v,h',g',ml',⟨n1,r1⟩,k1,k2,k3⟩:=hw (raise (kR ⟨S.hs,S.ls,restA a.anc S.ps⟩ (rowT ⟨some d,.call ⟨.value f,xs,ats⟩,ty,pos,af,gd⟩ a i) M) M) s00
    have q:∀ n2,n1≤n2→addH ⟨S.hs,S.ls,restA a.anc S.ps⟩ none (lower M.fl (valO (ev P nat n2 (.call fv args (raise (kR ⟨S.hs,S.ls,restA a.anc S.ps⟩ (rowT ⟨some d,.call ⟨.value f,xs,ats⟩,ty,pos,af,gd⟩ a i) M) M)))))=some (v,⟨(⟨h'.t,h'.n,M.fl⟩,none) :: S.hs,S.ls,restA a.anc S.ps⟩):=fun n2 hn=>by rw [ev_le hn _ _ r1];rfl
    have hok:∀ (r:Res),r.ok h'→r.ok ⟨h'.t,h'.n,M.fl⟩:=fun r hr=>by cases r <;> exact hr
    have kl:St (Base.at M g []) g' ml' ⟨h'.t,h'.n,M.fl⟩:=⟨k1.wf,rfl,s0.fln,k1.le,k1.old,k1.sub,k1.vis,fun r hr=>hok r (k1.own r hr),k1.nd,fun b hb=>by
     obtain ⟨f1,f2,f3,f4⟩:=k1.fresh b hb
     exact ⟨f1,Nat.le_trans hkr.1 f2,f3,f4⟩⟩
    refine ⟨n1,v,⟨h'.t,h'.n,M.fl⟩,g',ml',q n1 (Nat.le_refl _),q,?_,⟨k1.le,fun b hb hn=>(k1.old b hb (by intro h;cases h)).trans hn⟩,k2,k3,nw k1⟩
    exact (St.frame (F:=mlA pin ml) (I:=[]) (by rw [List.append_nil];exact s1) kl).perm List.perm_append_comm
 obtain ⟨n1,v,h',g',ml',q1,q1m,q2,kp,q3,q4,q5⟩:=main
 have rs:Rs B K n0 l (i+1) ((g',ml' ++ mlA pin ml,none) :: (g,ml,mu) :: rest) ls pout ⟨(h',none) :: S.hs,S.ls,restA a.anc S.ps⟩:=by
  refine ⟨r.eL,by show restA a.anc S.ps=pout;rw [r.eP,h2],.cons ⟨q2,rfl⟩ r.hs,fun h3 m3 r3 e3=>?_,fun p hp=>r.next.pb p (sin p hp),spp,r.kc _,r.kf,fun h3 m3 r3 e3=>by cases e3;exact Nat.le_trans (r.kb m nu l2 e) (sn ▸ kp.1)⟩
  cases e3
  exact ⟨fun k o2 a1 a2=>(sf1 k o2 a1 a2).kp kp,fun p hp=>(sf2 p hp).kp kp⟩
 obtain ⟨n2,tm',S',r2,q⟩:=k g' ml' v q3 q4 q5 n0 (tm.set d v) _ (hk.set d v) rs
 refine ⟨max n1 n2,tm',S',?_,q⟩
 rw [Qcf]
 unfold Qcx
 rw [e]
 have hw:=Gd.want (o:=⟨some d,.call ⟨.value f,xs,ats⟩,ty,pos,af,gd⟩) hk hg
 show (match wantV ops (tget tm) ⟨some d,.call ⟨.value f,xs,ats⟩,ty,pos,af,gd⟩ with | some true=>_ | some false=>_ | none=>none)=_
 rw [hw]
 have hone:oneD P (ev P nat (max n1 n2)) n0 (ev0 tm) (rowT ⟨some d,.call ⟨.value f,xs,ats⟩,ty,pos,af,gd⟩ a i) S m=some (v,⟨(h',none) :: S.hs,S.ls,restA a.anc S.ps⟩):=by
  show effD P _ (ev0 tm) _ ⟨S.hs,S.ls,restA a.anc S.ps⟩ (Ev.mergeA a.anc S.ps m) (some (f,xs.toList))=_
  unfold effD
  rw [r.eP,hM]
  show (match a.full with
     | true=>addH ⟨S.hs,S.ls,restA a.anc ps⟩ none (valO (ev P nat _ (.call (ev0 tm f) (lmap (ev0 tm) xs.toList) M)))
     | false=>addH ⟨S.hs,S.ls,restA a.anc ps⟩ none (lower M.fl (valO (ev P nat _ (.call (ev0 tm f) (lmap (ev0 tm) xs.toList) (raise (kR ⟨S.hs,S.ls,restA a.anc S.ps⟩ (rowT ⟨some d,.call ⟨.value f,xs,ats⟩,ty,pos,af,gd⟩ a i) M) M))))))=_
  rw [hk.ev hf,hk.evs hx, ←r.eP]
  exact q1m _ (Nat.le_max_left n1 n2)
 simp only [hone]
 show (match putT N tm v (some d) with | some tm'=>_ | none=>none)=_
 rw [Qcl hd]
 exact Qcv (ev_le (Nat.le_max_right n1 n2)) r2
theorem Wd.call {f:Operand} {xs:Array Operand} {ats:Array TypeId} {g:G} {ml:ML} {mu:Option Nat} {rest:List Sg} {pin pout:List Pd2} {fv:V} {args:List V} {Post:G→ML→V→Prop} (hg:Gd ops al gd) (hd:Nat.blt d N=true) (h1:pinF a.anc ps=pin) (h2:restA a.anc ps=pout)
  (hf:vA al f=some fv) (hx:vAs al xs.toList=some args) (hw:Fw P nat fv args g [] Post)
  (k:∀ g' ml' r,Le g g'→Post g' ml' r→Wd P nat K N B ops l tb (i+1) ((d,r) :: al) ((g',ml' ++ mlA pin ml,none) :: (g,ml,mu) :: rest) ls pout R):
  Wd P nat K N B ops (⟨some d,.call ⟨.value f,xs,ats⟩,ty,pos,af,gd⟩ :: l) (a :: tb) i al ((g,ml,mu) :: rest) ls ps R:=
 Wd.callK hg hd h1 h2 hf hx hw fun g' ml' r h1 h2 _=>k g' ml' r h1 h2
theorem Wd.callV {f:Operand} {xs:Array Operand} {ats:Array TypeId} {g:G} {ml:ML} {mu:Option Nat} {rest:List Sg} {pin pout:List Pd2} {fv:V} {args:List V} {v:V} (hg:Gd ops al gd) (hd:Nat.blt d N=true) (h1:pinF a.anc ps=pin) (h2:restA a.anc ps=pout)
  (hf:vA al f=some fv) (hx:vAs al xs.toList=some args) (hw:Fv P nat fv args g v)
  (k:Wd P nat K N B ops l tb (i+1) ((d,v) :: al) ((g,mlA pin ml,none) :: (g,ml,mu) :: rest) ls pout R):
  Wd P nat K N B ops (⟨some d,.call ⟨.value f,xs,ats⟩,ty,pos,af,gd⟩ :: l) (a :: tb) i al ((g,ml,mu) :: rest) ls ps R:=
 Wd.call hg hd h1 h2 hf hx hw.fw fun g' ml' r _ ⟨e1,e2,e3⟩=>by subst e1;subst e2;subst e3;exact k
theorem Wd.split {t:Nat} {x:Bool} (hx:lk al t=some (.b x)) (kt:x=true→Wd P nat K N B ops l tb i al sg ls ps R) (kf:x=false→Wd P nat K N B ops l tb i al sg ls ps R):Wd P nat K N B ops l tb i al sg ls ps R:=by
 cases x with
 | true=>exact kt rfl
 | false=>exact kf rfl
theorem Wc.draw {id:Nat} {opsA:Array Oper} {g:G} {ml:ML} {ds:List D} {Q:AQ} (hl:opsA.toList=l) (hok:orderOK opsA.toList (befores opsA)=true) (ht:tabF opsA.toList (befores opsA) opsA.toList 0=tb)
  (h:∀ K,Wd P nat K N B l l tb 0 al [(g,ml,none)] [] [] fun al g ml=>Q .normal al g ml ds):Wc P nat ro N B (.region id opsA true) al g ml ds Q:=fun tm m hk s=>by
 subst hl ht
 have s1:St B g ml ⟨m.t,m.n+flN opsA.toList,m.fl⟩:=⟨fun b hb=>s.wf b (by have:m.n+flN opsA.toList≤b:=hb;omega),s.fl,s.fln,by have:=s.le;show B.n≤m.n+flN opsA.toList;omega,s.old,s.sub,s.vis,fun r hr=>by have:=s.own r hr;cases r <;> exact this,s.nd,fun b hb=>by
  obtain ⟨f1,f2,f3,f4⟩:=s.fresh b hb
  exact ⟨f1,f2,by show b < m.n+flN opsA.toList;omega,f4⟩⟩
 have rs:Rs B (m.n+flN opsA.toList) m.n opsA.toList 0 [(g,ml,none)] [] [] ⟨[(⟨m.t,m.n+flN opsA.toList,m.fl⟩,none)],[],[]⟩:=by
  refine ⟨rfl,rfl,.one ⟨s1,rfl⟩,fun h2 m2 r2 e=>?_,fun p hp=>(by cases hp),List.Pairwise.nil,rfl,by have:=s.fln;have:=s.le;omega,fun h2 m2 r2 e=>by cases e;exact Nat.le_refl _⟩
  cases e
  refine ⟨fun k o h1 h2=>⟨s.wf _ (by omega),?_,by have:=s.le;omega⟩,fun p hp=>by cases hp⟩
  have hk:k < opsA.toList.length:=(List.getElem?_eq_some_iff.1 h1).1
  have hfl:flN opsA.toList=opsA.toList.length:=by
    unfold flN
    have:opsA.toList.any (fun o=>flB o.op)=true:=List.any_eq_true.2 ⟨o,List.mem_of_getElem? h1,h2⟩
    rw [this, ←Qas]
  show m.n+(0+k) < m.n+flN opsA.toList
  omega
 obtain ⟨n,tm',S',r,hh,mm,rest,e,al',g',ml',k1,k2,q⟩:=h _ m.n tm _ hk rs
 refine ⟨.normal,tm',ds,mergeL S'.ps hh,⟨n+1,?_⟩,al',g',ml',k1,k2,q⟩
 show runDraw P (ev P nat n) N opsA tm ds m=_
 unfold runDraw drawO
 rw [if_pos hok]
 simp only []
 rw [rows_eq,r]
 obtain ⟨hs,ls,ps⟩:=S'
 simp only at e
 subst e
 rfl
end
end Go.Ev
namespace Go.Ev
open Go
set_option linter.unusedVariables false
set_option linter.unusedSimpArgs false
section
variable {P:Program} {nat:Nats} {ro:Option Nat} {K N:Nat} {B:Base} {al:AL} {g g0:G} {ml:ML} {ops l:List Oper} {R:OQ} {Q:AQ} {ds:List D}
theorem Wo.split {t:Nat} {x:Bool} (hx:lk al t=some (.b x)) (kt:x=true→Wo P nat N B ops l al g ml R) (kf:x=false→Wo P nat N B ops l al g ml R):Wo P nat N B ops l al g ml R:=by
 cases x with
 | true=>exact kt rfl
 | false=>exact kf rfl
theorem Wo.callT {f:Operand} {xs:Array Operand} {ats:Array TypeId} {d ty:Nat} {pos:String} {af:Array Edge} {gd:Option (Nat × Bool)} {fv:V} {args:List V} {r1:Res} {mr:ML} {Post:G→ML→V→Prop} (hg:Gd ops al gd) (hd:Nat.blt d N=true)
  (hf:vA al f=some fv) (hx:vAs al xs.toList=some args) (hm:Tk r1 ml mr) (hw:Fw P nat fv args g [r1] Post)
  (k:∀ g' ml' r,Le g g'→Post g' ml' r→Wo P nat N B ops l ((d,r) :: al) g' (ml' ++ mr) R):
  Wo P nat N B ops (⟨some d,.call ⟨.value f,xs,ats⟩,ty,pos,af,gd⟩ :: l) al g ml R:=
 Wo.callW hg hd hf hx (mr:=mr) (ml1:=[r1]) (hm.perm.trans (List.perm_append_singleton _ _).symm) hw fun g' ml' r h1 h2 tm m hk s=>k g' ml' r h1 h2 tm m hk (s.perm List.perm_append_comm)
theorem OpP.ixae {t:TypeId} {x i:Operand} {b o n s:Nat} {k:IntKind} {j:Int} {q:Nat} (hx:vA al x=some (.p b o)) (hi:vA al i=some (.i k j)) (e:j=(q:Int)) (ht:aeO P t=some (n,s)) (h1:q < n):OpP P al (.indexAddr t x i) (.p b (o+q * s)):=by
 subst e;exact .ixa hx hi ht h1
theorem OpP.ixve {t e:TypeId} {x i:Operand} {cs:List V} {n s:Nat} {k:IntKind} {j:Int} {q:Nat} {v:V} (hx:vA al x=some (.agg cs)) (hi:vA al i=some (.i k j)) (ej:j=(q:Int)) (ht:arO P t=some (n,e)) (hs:szO P e=some s) (h1:q < n) (hv:partV P e cs (q * s)=some v):OpP P al (.index t x i) v:=by
 subst ej;exact .ixv hx hi ht hs h1 hv
theorem case3 {j:Int} (h:0≤j∧j < 3):j=((0:Nat):Int)∨j=((1:Nat):Int)∨j=((2:Nat):Int):=by omega
theorem case6 {j:Int} (h:0≤j∧j < 6):j=((0:Nat):Int)∨j=((1:Nat):Int)∨j=((2:Nat):Int)∨j=((3:Nat):Int)∨j=((4:Nat):Int)∨j=((5:Nat):Int):=by omega
theorem case5 {j:Int} (h:0≤j∧j < 5):j=((0:Nat):Int)∨j=((1:Nat):Int)∨j=((2:Nat):Int)∨j=((3:Nat):Int)∨j=((4:Nat):Int):=by omega
theorem Qaa {rs:List ResultVar} {Post:G→ML→V→Prop} {vs:List V} {v:V} (hle:Le g0 g) (hr:Rl P al g ml rs vs) (hv:resV (some vs)=some v) (hp:Post g ml v):RetQ P rs g0 Post .ret al g ml []:=⟨rfl,hle,vs,v,hr,hv,hp⟩
theorem Qac {α:Type} {A:α→AL} {M:α→ML} {J:α→G→Prop} {μ:α→Nat} {x:α} (x':α) (h1:SubL al (A x')) (h2:(M x').Sublist ml) (h3:Le g0 g) (h4:J x' g) (h5:μ x' < μ x):loopQ A M J μ g0 ds x Q .normal al g ml ds:=⟨rfl,x',h1,h2,h3,h4,h5⟩
theorem Wc.unroll {c:Code} (h:Wc P nat ro N B c al g ml ds (seqQ P nat ro N B (.loop c) Q)):Wc P nat ro N B (.loop c) al g ml ds Q:=fun tm m hk s=>by
 obtain ⟨e,tm1,ds1,h1,r1,al1,g1,ml1,k1,s1,q1⟩:=h tm m hk s
 cases e with
 | normal=>
   obtain ⟨e2,tm2,ds2,h2,r2,q2⟩:=q1 tm1 h1 k1 s1
   obtain ⟨n,a,b⟩:=r1.at2 r2
   exact ⟨e2,tm2,ds2,h2,⟨n+1,by show sLoop (ev P nat n) ro N c (ev P nat n (.code ro N c tm ds m))=_;rw [a];exact b⟩,q2⟩
 | exit i=>
   obtain ⟨n,a⟩:=r1
   exact ⟨.exit i,tm1,ds1,h1,⟨n+1,by show sLoop (ev P nat n) ro N c (ev P nat n (.code ro N c tm ds m))=_;rw [a];rfl⟩,al1,g1,ml1,k1,s1,q1⟩
 | ret=>
   obtain ⟨n,a⟩:=r1
   exact ⟨.ret,tm1,ds1,h1,⟨n+1,by show sLoop (ev P nat n) ro N c (ev P nat n (.code ro N c tm ds m))=_;rw [a];rfl⟩,al1,g1,ml1,k1,s1,q1⟩
theorem Wc.loopx {α:Type} (fx:AL) (mx:ML) (A:AL→α→AL) (M:ML→α→ML) (J:α→G→Prop) (μ:α→Nat) {c:Code} (x:α) (ha:SubL al (A fx x)) (hm:(M mx x).Sublist ml) (hj:J x g)
 (round:∀ x g',Le g g'→J x g'→Wc P nat ro N B c (A fx x) g' (M mx x) ds (loopQ (A fx) (M mx) J μ g' ds x Q)):Wc P nat ro N B (.loop c) al g ml ds Q:=Wc.loop (A fx) (M mx) J μ x ha hm hj round
noncomputable def rg (l:ML) (n:Nat):Res:=List.rec (motive:=fun _=>Nat→Res) (fun _=>.blk 0 .gone) (fun a _ ih n=>Nat.rec a (fun m _=>ih m) n) l n
theorem dc {α:Type} {l:List α} {k:Nat} {y:α} (h:l[k]? =some y):l.drop k=y :: l.drop (k+1):=by
 obtain ⟨h1,rfl⟩:=List.getElem?_eq_some_iff.1 h
 exact List.drop_eq_getElem_cons h1
theorem dn {α:Type} {l:List α} {k:Nat} (h:l.length≤k):l.drop k=[]:=List.drop_eq_nil_of_le h
theorem sq_n {y:Code} (h:Wc P nat ro N B y al g ml ds Q):seqQ P nat ro N B y Q .normal al g ml ds:=h
theorem sq_r {y:Code} (h:Q .ret al g ml ds):seqQ P nat ro N B y Q .ret al g ml ds:=h
theorem sq_e {y:Code} {i:Nat} (h:Q (.exit i) al g ml ds):seqQ P nat ro N B y Q (.exit i) al g ml ds:=h
theorem bq_n {i:Nat} (h:Q .normal al g ml ds):blockQ i Q .normal al g ml ds:=h
theorem bq_r {i:Nat} (h:Q .ret al g ml ds):blockQ i Q .ret al g ml ds:=h
theorem bq_x {i j:Nat} (hj:Nat.beq j i=true) (h:Q .normal al g ml ds):blockQ i Q (.exit j) al g ml ds:=by show Q (Bool.rec (motive:=fun _=>Ex) (.exit j) .normal (Nat.beq j i)) al g ml ds;rw [hj];exact h
theorem bq_e {i j:Nat} (hj:Nat.beq j i=false) (h:Q (.exit j) al g ml ds):blockQ i Q (.exit j) al g ml ds:=by show Q (Bool.rec (motive:=fun _=>Ex) (.exit j) .normal (Nat.beq j i)) al g ml ds;rw [hj];exact h
theorem lq_r {α:Type} {A:α→AL} {M:α→ML} {J:α→G→Prop} {μ:α→Nat} {x:α} (h:Q .ret al g ml ds):loopQ A M J μ g0 ds x Q .ret al g ml ds:=h
theorem lq_e {α:Type} {A:α→AL} {M:α→ML} {J:α→G→Prop} {μ:α→Nat} {x:α} {i:Nat} (h:Q (.exit i) al g ml ds):loopQ A M J μ g0 ds x Q (.exit i) al g ml ds:=h
def RS {α:Type} (R:G→List V→α→Prop) (s:Nat) (g:G) (v:V) (l:List α):Prop:=
 l.length≤9223372036854775807∧((v= .sn∧l=[])∨((v= .e0∨v= .ez)∧l=[])∨∃ b o,SlS s v b o l.length∧∀ j x,l[j]? =some x→∃ cs,cs.length=s∧Pt g b (o+j * s) cs∧R g cs x)
theorem RS.mono {α:Type} {R:G→List V→α→Prop} (hR:∀ g g' cs x,Le g g'→R g cs x→R g' cs x) {s:Nat} {g g':G} {v:V} {l:List α} (h:RS R s g v l) (hl:Le g g'):RS R s g' v l:=by
 obtain ⟨h0,h⟩:=h
 refine ⟨h0,?_⟩
 rcases h with h | h | ⟨b,o,h1,h2⟩
 ·exact .inl h
 ·exact .inr (.inl h)
 ·exact .inr (.inr ⟨b,o,h1,fun j x hx=>by obtain ⟨cs,a1,a2,a3⟩:=h2 j x hx;exact ⟨cs,a1,a2.mono hl,hR _ _ _ _ hl a3⟩⟩)
theorem RS.one {α:Type} {R:G→List V→α→Prop} {s:Nat} {g:G} {v:V} {l:List α} (h:RS R s g v l):oneV v=true:=by
 rcases h.2 with h | h | ⟨b,o,h1,h2⟩
 ·rw [h.1];rfl
 ·rcases h.1 with e | e <;> rw [e] <;> rfl
 ·exact h1.sl1.one
theorem RS.any {α:Type} {R:G→List V→α→Prop} {s:Nat} {g:G} {v:V} {l:List α} (h:RS R s g v l):v.any? =false:=by
 rcases h.2 with h | h | ⟨b,o,h1,h2⟩
 ·rw [h.1];rfl
 ·rcases h.1 with e | e <;> rw [e] <;> rfl
 ·cases h1 <;> rfl
theorem RS.cells {α:Type} {R:G→List V→α→Prop} {s:Nat} {g:G} {v:V} {l:List α} (h:RS R s g v l):v.cells=[v]:=by
 rcases h.2 with h | h | ⟨b,o,h1,h2⟩
 ·rw [h.1];rfl
 ·rcases h.1 with e | e <;> rw [e] <;> rfl
 ·cases h1 <;> rfl
theorem OpP.lenR {α:Type} {S:G→List V→α→Prop} {s s':Nat} {x:Operand} {t:TypeId} {v:V} {xs:Array Operand} {ts:Array TypeId} {m:List α} (hxs:xs= #[x]) (hts:ts= #[t]) (hx:vA al x=some v) (ht:seO P t=some s') (h:RS S s g v m):OpP P al (.call ⟨.builtin .len,xs,ts⟩) (.i .i64 (m.length:Int)):=by
 obtain ⟨e,h2,_⟩:=seO_some ht
 refine .len hxs hts hx ?_
 rcases h.2 with ⟨rfl,rfl⟩ | ⟨rfl | rfl,rfl⟩ | ⟨b,o,h1,_⟩
 ·simp only [lenV,h2];rfl
 ·simp only [lenV,h2];rfl
 ·simp only [lenV,h2];rfl
 ·exact lenV_sl ht h1.sl1
theorem RS.ix {α:Type} {S:G→List V→α→Prop} {s:Nat} {v:V} {m:List α} (h:RS S s g v m) {j:Nat} (hj:j < m.length):∃ b o x cs,Sl v b o m.length∧m[j]? =some x∧cs.length=s∧Pt g b (o+j * s) cs∧S g cs x:=by
 rcases h.2 with ⟨_,rfl⟩ | ⟨_,rfl⟩ | ⟨b,o,h1,h2⟩
 ·cases hj
 ·cases hj
 ·obtain ⟨cs,a1,a2,a3⟩:=h2 j _ (List.getElem?_eq_getElem hj)
  exact ⟨b,o,_,cs,h1.sl1,List.getElem?_eq_getElem hj,a1,a2,a3⟩
theorem Wo.ixn {α:Type} {S:G→List V→α→Prop} {s:Nat} {v:V} {m:List α} {t:TypeId} {x i:Operand} {k:IntKind} {j:Nat} {d ty:Nat} {pos:String} {af:Array Edge} {gd:Option (Nat × Bool)} (hg:Gd ops al gd) (hd:Nat.blt d N=true)
  (hx:vA al x=some v) (h:RS S s g v m) (hi:vA al i=some (.i k (j:Int))) (ht:seO P t=some s) (hj:j < m.length)
  (kk:∀ b o cs y,m[j]? =some y→Pt g b o cs→S g cs y→Wo P nat N B ops l ((d,.p b o) :: al) g ml R):Wo P nat N B ops (⟨some d,.indexAddr t x i,ty,pos,af,gd⟩ :: l) al g ml R:=by
 obtain ⟨b,o,y,cs,h1,h2,h3,h4,h5⟩:=h.ix hj
 exact .p hg hd (.ixn hx h1 hi ht hj) (kk b _ cs y h2 h4 h5)
theorem Wo.ixi {α:Type} {S:G→List V→α→Prop} {s:Nat} {v:V} {m:List α} {t:TypeId} {x i:Operand} {k:IntKind} {j:Int} {d ty:Nat} {pos:String} {af:Array Edge} {gd:Option (Nat × Bool)} (hg:Gd ops al gd) (hd:Nat.blt d N=true)
  (hx:vA al x=some v) (h:RS S s g v m) (hi:vA al i=some (.i k j)) (ht:seO P t=some s) (hj:0≤j∧j < m.length)
  (kk:∀ b o cs y,m[j.toNat]? =some y→Pt g b o cs→S g cs y→Wo P nat N B ops l ((d,.p b o) :: al) g ml R):Wo P nat N B ops (⟨some d,.indexAddr t x i,ty,pos,af,gd⟩ :: l) al g ml R:=by
 obtain ⟨b,o,y,cs,h1,h2,h3,h4,h5⟩:=h.ix (j:=j.toNat) (by omega)
 exact .p hg hd (.ix hx h1 hi ht hj.1 hj.2) (kk b _ cs y h2 h4 h5)
end
section
variable {P:Program} {nat:Nats} {K N:Nat} {B:Base} {al:AL} {ops l:List Oper} {a:Ri} {tb:List Ri} {i0:Nat} {sg:List Sg} {ls:List (Nat × Nat)} {ps:List Pd2} {R:OQ} {d ty:Nat} {pos:String} {af:Array Edge} {gd:Option (Nat × Bool)}
theorem Wd.ixn {α:Type} {S:G→List V→α→Prop} {g:G} {s:Nat} {v:V} {m:List α} {t:TypeId} {x i:Operand} {k:IntKind} {j:Nat} (hg:Gd ops al gd) (hd:Nat.blt d N=true)
  (hx:vA al x=some v) (h:RS S s g v m) (hi:vA al i=some (.i k (j:Int))) (ht:seO P t=some s) (hj:j < m.length)
  (kk:∀ b o cs y,m[j]? =some y→Pt g b o cs→S g cs y→Wd P nat K N B ops l tb (i0+1) ((d,.p b o) :: al) sg ls ps R):Wd P nat K N B ops (⟨some d,.indexAddr t x i,ty,pos,af,gd⟩ :: l) (a :: tb) i0 al sg ls ps R:=by
 obtain ⟨b,o,y,cs,h1,h2,h3,h4,h5⟩:=h.ix hj
 exact .p hg hd (.ixn hx h1 hi ht hj) rfl rfl rfl (kk b _ cs y h2 h4 h5)
theorem Wd.ixi {α:Type} {S:G→List V→α→Prop} {g:G} {s:Nat} {v:V} {m:List α} {t:TypeId} {x i:Operand} {k:IntKind} {j:Int} (hg:Gd ops al gd) (hd:Nat.blt d N=true)
  (hx:vA al x=some v) (h:RS S s g v m) (hi:vA al i=some (.i k j)) (ht:seO P t=some s) (hj:0≤j∧j < m.length)
  (kk:∀ b o cs y,m[j.toNat]? =some y→Pt g b o cs→S g cs y→Wd P nat K N B ops l tb (i0+1) ((d,.p b o) :: al) sg ls ps R):Wd P nat K N B ops (⟨some d,.indexAddr t x i,ty,pos,af,gd⟩ :: l) (a :: tb) i0 al sg ls ps R:=by
 obtain ⟨b,o,y,cs,h1,h2,h3,h4,h5⟩:=h.ix (j:=j.toNat) (by omega)
 exact .p hg hd (.ix hx h1 hi ht hj.1 hj.2) rfl rfl rfl (kk b _ cs y h2 h4 h5)
end
theorem bk:(∀ b:Bool,((!b)=true)=(b=false))∧(∀ b:Bool,((!b)=false)=(b=true))∧(∀ b:Bool,(¬ b=true)=(b=false))∧(∀ b:Bool,(¬ b=false)=(b=true))∧(∀ (p:Prop) [Decidable p],(decide p=true)=p)∧(∀ (p:Prop) [Decidable p],(decide p=false)= ¬ p)∧(∀ a b:Int,(¬ a < b)=(b≤a))∧(∀ a b:Int,(¬ a≤b)=(b < a))∧((!true)=false)∧((!false)=true):=
 ⟨fun b=>by simp,fun b=>by simp,fun b=>by simp,fun b=>by simp,fun p _=>by simp,fun p _=>by simp,fun a b=>by simp,fun a b=>by simp,rfl,rfl⟩
abbrev r0 (m r:Nat):Ri:=⟨m,r,false,false⟩
abbrev r1 (m r:Nat):Ri:=⟨m,r,true,false⟩
abbrev r2 (m r:Nat):Ri:=⟨m,r,false,true⟩
section
variable {P:Program} {nat:Nats} {K N:Nat} {B:Base} {al:AL} {g:G} {ml:ML} {ops l:List Oper} {R:OQ} {d ty:Nat} {pos:String} {af:Array Edge} {v:V} {x:Operand}
theorem Wo.m (hd:Nat.blt d N=true) (hx:vA al x=some v) (k:Wo P nat N B ops l ((d,v) :: al) g ml R):Wo P nat N B ops (⟨some d,.move x,ty,pos,af,none⟩ :: l) al g ml R:=.p .no hd (.move hx) k
theorem Wo.z (hd:Nat.blt d N=true) (hx:vA al x=some v) (k:Wo P nat N B ops l ((d,v) :: al) g ml R):Wo P nat N B ops (⟨some d,.assign x,ty,pos,af,none⟩ :: l) al g ml R:=.p .no hd (.assign hx) k
theorem Wo.b {op:BinOp} {t u:TypeId} {x y:Operand} {k:IntKind} {a b:Int} (hd:Nat.blt d N=true) (hx:vA al x=some (.i k a)) (hy:vA al y=some (.i k b)) (hv:iop op k a b=some v) (kk:Wo P nat N B ops l ((d,v) :: al) g ml R):Wo P nat N B ops (⟨some d,.binOp op t x y u,ty,pos,af,none⟩ :: l) al g ml R:=.p .no hd (.bin hx hy hv) kk
variable {o:Op} {j t:Nat} {want yb:Bool}
theorem Wo.k (h3:yb= !want) (k:Wo P nat N B ops l ((d,.tup []) :: al) g ml R) (h1:dAt ops j=some t:=by exact rfl) (h2:lk al t=some (.b yb):=by exact rfl) (hd:Nat.blt d N=true:=by exact rfl):Wo P nat N B ops (⟨some d,o,ty,pos,af,some (j,want)⟩ :: l) al g ml R:=.skip (.yes h1 h2 h3) hd k
theorem Wo.ku (k:Wo P nat N B ops l ((d,.tup []) :: al) g ml R) (h1:dAt ops j=some t:=by exact rfl) (h2:lk al t=some (.tup []):=by exact rfl) (hd:Nat.blt d N=true:=by exact rfl):Wo P nat N B ops (⟨some d,o,ty,pos,af,some (j,want)⟩ :: l) al g ml R:=.skip (.un h1 h2) hd k
theorem Wo.q (hp:OpP P al o v) (k:Wo P nat N B ops l ((d,v) :: al) g ml R) (hd:Nat.blt d N=true:=by exact rfl):Wo P nat N B ops (⟨some d,o,ty,pos,af,none⟩ :: l) al g ml R:=.p .no hd hp k
theorem Wo.py (h3:yb=want) (hp:OpP P al o v) (k:Wo P nat N B ops l ((d,v) :: al) g ml R) (h1:dAt ops j=some t:=by exact rfl) (h2:lk al t=some (.b yb):=by exact rfl) (hd:Nat.blt d N=true:=by exact rfl):Wo P nat N B ops (⟨some d,o,ty,pos,af,some (j,want)⟩ :: l) al g ml R:=.p (.yes h1 h2 h3) hd hp k
theorem Wo.w {T:TypeId} {b:Nat} (hp:OpL P al g ml T x b v) (k:Wo P nat N B ops l ((d,v) :: al) g ml R) (hd:Nat.blt d N=true:=by exact rfl):Wo P nat N B ops (⟨some d,.load T x,ty,pos,af,none⟩ :: l) al g ml R:=.ld .no hd hp k
theorem Wo.wy {T:TypeId} {b:Nat} (h3:yb=want) (hp:OpL P al g ml T x b v) (k:Wo P nat N B ops l ((d,v) :: al) g ml R) (h1:dAt ops j=some t:=by exact rfl) (h2:lk al t=some (.b yb):=by exact rfl) (hd:Nat.blt d N=true:=by exact rfl):Wo P nat N B ops (⟨some d,.load T x,ty,pos,af,some (j,want)⟩ :: l) al g ml R:=.ld (.yes h1 h2 h3) hd hp k
end
section
variable {P:Program} {nat:Nats} {K N:Nat} {B:Base} {al:AL} {ops l:List Oper} {a:Ri} {tb:List Ri} {i0:Nat} {sg:List Sg} {ls:List (Nat × Nat)} {ps:List Pd2} {R:OQ} {d ty:Nat} {pos:String} {af:Array Edge} {v:V} {x:Operand}
variable {o:Op} {j t:Nat} {want yb:Bool}
theorem Wd.k (h3:yb= !want) (k:Wd P nat K N B ops l tb (i0+1) ((d,.tup []) :: al) sg ls ps R) (he:effB o=false:=by exact rfl) (h1:dAt ops j=some t:=by exact rfl) (h2:lk al t=some (.b yb):=by exact rfl) (hd:Nat.blt d N=true:=by exact rfl):Wd P nat K N B ops (⟨some d,o,ty,pos,af,some (j,want)⟩ :: l) (a :: tb) i0 al sg ls ps R:=.skip (.yes h1 h2 h3) hd he k
theorem Wd.ku (k:Wd P nat K N B ops l tb (i0+1) ((d,.tup []) :: al) sg ls ps R) (he:effB o=false:=by exact rfl) (h1:dAt ops j=some t:=by exact rfl) (h2:lk al t=some (.tup []):=by exact rfl) (hd:Nat.blt d N=true:=by exact rfl):Wd P nat K N B ops (⟨some d,o,ty,pos,af,some (j,want)⟩ :: l) (a :: tb) i0 al sg ls ps R:=.skip (.un h1 h2) hd he k
theorem Wd.q (hp:OpP P al o v) (k:Wd P nat K N B ops l tb (i0+1) ((d,v) :: al) sg ls ps R) (he:effB o=false:=by exact rfl) (hr:rdB o=false:=by exact rfl) (hf:flB o=false:=by exact rfl) (hd:Nat.blt d N=true:=by exact rfl):Wd P nat K N B ops (⟨some d,o,ty,pos,af,none⟩ :: l) (a :: tb) i0 al sg ls ps R:=.p .no hd hp he hr hf k
theorem Wd.py (h3:yb=want) (hp:OpP P al o v) (k:Wd P nat K N B ops l tb (i0+1) ((d,v) :: al) sg ls ps R) (he:effB o=false:=by exact rfl) (hr:rdB o=false:=by exact rfl) (hf:flB o=false:=by exact rfl) (h1:dAt ops j=some t:=by exact rfl) (h2:lk al t=some (.b yb):=by exact rfl) (hd:Nat.blt d N=true:=by exact rfl):Wd P nat K N B ops (⟨some d,o,ty,pos,af,some (j,want)⟩ :: l) (a :: tb) i0 al sg ls ps R:=.p (.yes h1 h2 h3) hd hp he hr hf k
theorem Wd.m (hd:Nat.blt d N=true) (hx:vA al x=some v) (k:Wd P nat K N B ops l tb (i0+1) ((d,v) :: al) sg ls ps R):Wd P nat K N B ops (⟨some d,.move x,ty,pos,af,none⟩ :: l) (a :: tb) i0 al sg ls ps R:=.p .no hd (.move hx) rfl rfl rfl k
theorem Wd.z (hd:Nat.blt d N=true) (hx:vA al x=some v) (k:Wd P nat K N B ops l tb (i0+1) ((d,v) :: al) sg ls ps R):Wd P nat K N B ops (⟨some d,.assign x,ty,pos,af,none⟩ :: l) (a :: tb) i0 al sg ls ps R:=.p .no hd (.assign hx) rfl rfl rfl k
theorem Wd.b {op:BinOp} {t u:TypeId} {x y:Operand} {k:IntKind} {c b:Int} (hd:Nat.blt d N=true) (hx:vA al x=some (.i k c)) (hy:vA al y=some (.i k b)) (hv:iop op k c b=some v) (kk:Wd P nat K N B ops l tb (i0+1) ((d,v) :: al) sg ls ps R):Wd P nat K N B ops (⟨some d,.binOp op t x y u,ty,pos,af,none⟩ :: l) (a :: tb) i0 al sg ls ps R:=.p .no hd (.bin hx hy hv) rfl rfl rfl kk
theorem Wd.y {t:TypeId} {x:Operand} {b:Nat} {v:V} {g:G} {ml:ML} {mu:Option Nat} (hd:Nat.blt d N=true) (hk0:sg.length - 1 - a.st=0) (hq:lget sg 0=some (g,ml,mu)) (hp:OpL P al g ml t x b v)
 (kk:Wd P nat K N B ops l tb (i0+1) ((d,v) :: al) sg ((i0,b) :: ls) ps R):Wd P nat K N B ops (⟨some d,.load t x,ty,pos,af,none⟩ :: l) (a :: tb) i0 al sg ls ps R:=.ld (k:=0) .no hd hk0 hq trivial hp kk
end
end Go.Ev
namespace Go.Ev
open Go
set_option linter.unusedVariables false
set_option linter.unusedSimpArgs false
mutual
noncomputable def aV (s:Nat):Value→V
 | .bool x=>.b x
 | .int k n=>.i k n
 | .string x=>.s x.data.toList
 | .pointer none=>.p0
 | .pointer (some ⟨r,o,none⟩)=>if r < s then .p r o else .any
 | .slice none 0 0=>.sn
 | .slice (some ⟨r,o,sp⟩) n c=>if r < s∧sp=none then .sl r o n c else if n=0 then (if c=0 then .ez else .e0) else .any
 | .nilFunc=>.nf
 | .nilIface=>.ni
 | .agg ⟨cs⟩=>.agg (aVs s cs)
 | .tuple ⟨cs⟩=>.tup (aVs s cs)
 | _=>.any
noncomputable def aVs (s:Nat):List Value→List V
 | []=>[]
 | v :: r=>aV s v :: aVs s r
end
noncomputable def aEnv (w:World):Env:=fun b=>match w.heap[b]? with
 | some (.cells C _ _)=>some ⟨b,0,C.size⟩
 | some _=>some ⟨b,0,0⟩
 | none=>none
theorem aEnv_lt {w:World} {b:Nat} (h:b < w.heap.size):∃ e,aEnv w b=some e∧e.r=b∧e.base=0:=by
 unfold aEnv
 rw [Array.getElem?_eq_getElem h]
 try simp only []
 split
 ·exact ⟨_,rfl,rfl,rfl⟩
 ·exact ⟨_,rfl,rfl,rfl⟩
 ·rename_i h2;cases h2
theorem aEnv_some {w:World} {b:Nat} {e:Pl} (h:aEnv w b=some e):b < w.heap.size∧e.r=b∧e.base=0:=by
 unfold aEnv at h
 split at h
 ·rename_i C t fr hb
  cases h
  exact ⟨(Array.getElem?_eq_some_iff.1 hb).1,rfl,rfl⟩
 ·rename_i x _ hb
  cases h
  exact ⟨(Array.getElem?_eq_some_iff.1 hb).1,rfl,rfl⟩
 ·cases h
mutual
theorem aV_ok (w:World):∀ v:Value,VR (aEnv w) (aV w.heap.size v) v
 | .bool _ | .int .. | .pointer none | .nilFunc | .nilIface=>by simp only [aV,VR]
 | .string s=>by simp only [aV,VR]
 | .slice none 0 0=>by simp only [aV,VR]
 | .pointer (some ⟨r,o,none⟩)=>by
   simp only [aV]
   by_cases h:r < w.heap.size
   ·rw [if_pos h]
    obtain ⟨e,h1,h2,h3⟩:=aEnv_lt h
    simp only [VR]
    exact ⟨e,h1,by rw [h2,h3];simp⟩
   ·rw [if_neg h];simp only [VR]
 | .slice (some ⟨r,o,sp⟩) n c=>by
   simp only [aV]
   by_cases h:r < w.heap.size∧sp=none
   ·rw [if_pos h]
    obtain ⟨h,rfl⟩:=h
    obtain ⟨e,h1,h2,h3⟩:=aEnv_lt h
    simp only [VR]
    exact ⟨e,h1,by rw [h2,h3];simp⟩
   ·rw [if_neg h]
    by_cases h0:n=0
    ·subst h0
     rw [if_pos rfl]
     by_cases hc0:c=0
     ·subst hc0;rw [if_pos rfl];simp only [VR];exact ⟨_,rfl⟩
     ·rw [if_neg hc0];simp only [VR];exact ⟨_,_,rfl⟩
    ·rw [if_neg h0];simp only [VR]
 | .agg ⟨cs⟩=>by simp only [aV,VR];exact ⟨cs,aVs_ok w cs,rfl⟩
 | .tuple ⟨cs⟩=>by simp only [aV,VR];exact ⟨cs,aVs_ok w cs,rfl⟩
 | .slice none (n+1) c | .slice none 0 (c+1) | .pointer (some ⟨_,_,some _⟩) | .float .. | .complex .. | .map _ | .chan _ | .iface _ _ | .func .. =>by simp only [aV,VR]
theorem aVs_ok (w:World):∀ vs:List Value,VRs (aEnv w) (aVs w.heap.size vs) vs
 | []=>by simp only [aVs,VRs]
 | v :: r=>by simp only [aVs,VRs];exact ⟨v,r,aV_ok w v,aVs_ok w r,rfl⟩
end
noncomputable def aBlk (s:Nat):Obj→Option Blk
 | .cells C t _=>some (.cells (aVs s C.toList) t)
 | _=>none
noncomputable def aT (w:World):Nat→TT Blk
 | 0=>.lf
 | n+1=>match (w.heap[n]?).bind (aBlk w.heap.size) with
   | some x=>(aT w n).set n x
   | none=>aT w n
theorem aT_get (w:World):∀ n b,(aT w n).get b=if b < n then (w.heap[b]?).bind (aBlk w.heap.size) else none
 | 0,b=>by rw [if_neg (Nat.not_lt_zero _)];rfl
 | n+1,b=>by
   have ih:=aT_get w n b
   unfold aT
   split
   ·rename_i x hx
    rw [TT.get_set]
    by_cases e:b=n
    ·subst e;rw [if_pos rfl,if_pos (Nat.lt_succ_self _),hx]
    ·rw [if_neg e,ih]
     by_cases h:b < n
     ·rw [if_pos h,if_pos (by omega)]
     ·rw [if_neg h,if_neg (by omega)]
   ·rename_i hx
    rw [ih]
    by_cases e:b=n
    ·subst e;rw [if_neg (by omega),if_pos (Nat.lt_succ_self _),hx]
    ·by_cases h:b < n
     ·rw [if_pos h,if_pos (by omega)]
     ·rw [if_neg h,if_neg (by omega)]
noncomputable def aH (w:World):H:=⟨aT w w.heap.size,w.heap.size,w.heap.size⟩
noncomputable def gW (w:World):G:=fun b=>(w.heap[b]?).bind (aBlk w.heap.size)
theorem aH_get (w:World) (b:Nat):(aH w).get b=gW w b:=by
 show (aT w w.heap.size).get b=_
 rw [aT_get]
 unfold gW
 by_cases h:b < w.heap.size
 ·rw [if_pos h]
 ·rw [if_neg h,Array.getElem?_eq_none (by omega)];rfl
theorem aVs_len (s:Nat):∀ l:List Value,(aVs s l).length=l.length
 | []=>by simp only [aVs,List.length_nil]
 | v :: r=>by simp only [aVs,List.length_cons,aVs_len s r]
theorem HR.start (w:World):HR w (aEnv w) (aH w) w:=by
 refine ⟨fun b hb=>?_,fun b e he=>?_,fun b x hx=>?_,fun b b' x x' e e' h1 h2 h3 h4 h5 h6 h7=>?_,Nat.le_refl _,RowKit.Below.refl _ _,fun b e he hb=>?_⟩
 ·have hb:w.heap.size≤b:=hb
  unfold aEnv
  rw [Array.getElem?_eq_none hb]
 ·obtain ⟨h1,h2,_⟩:=aEnv_some he
  rw [h2];exact h1
 ·rw [aH_get] at hx
  unfold gW at hx
  cases hb:w.heap[b]? with
  | none=>rw [hb] at hx;cases hx
  | some o=>
    rw [hb] at hx
    have hx:aBlk w.heap.size o=some x:=hx
    cases o with
    | cells C t fr=>
      cases hx
      refine ⟨⟨b,0,C.size⟩,?_,C,fr,hb,rfl,?_,.inr (Array.getElem?_eq_some_iff.1 hb).1⟩
      ·unfold aEnv;rw [hb]
      ·rw [List.drop_zero,aVs_len,List.take_length]
       exact aVs_ok w C.toList
    | _=>cases hx
 ·rw [(aEnv_some h5).2.1,(aEnv_some h6).2.1] at h7;exact h7
 ·have:=(aEnv_some he).1
  have hb:w.heap.size≤b:=hb
  omega
theorem St.start (w:World):St (Base.at (aH w) (gW w) []) (gW w) [] (aH w):=by
 refine ⟨fun b hb=>?_,rfl,Nat.le_refl _,Nat.le_refl _,fun _ _ _=>rfl,fun b x hx=>by rw [aH_get];exact hx,fun b x hx _=>.inl hx,fun r hr=>(by cases hr),List.nodup_nil,fun b hb=>(by cases hb)⟩
 have hb:w.heap.size≤b:=hb
 rw [aH_get];unfold gW;rw [Array.getElem?_eq_none hb];rfl
theorem calls_of_fv {P:Program} {nat:Nats} {f:Nat} {us:List Value} {v:V} (w:World) (hv:Fv P nat (.f f [] []) (aVs w.heap.size us) (gW w) v) (hm:P.follows .mixedOrders=true) (hnat:NatOK P w nat)
  (hf:∃ fn,P.funcs[f]? =some fn∧fn.body≠none∧numO fn=false):Calls P f ⟨us⟩ w fun e w'=>∃ u env',e= .returned u∧VR env' v u∧RowKit.Below w.heap.size w w':=by
 obtain ⟨h',⟨n,hx⟩,_⟩:=hv (aH w) (St.start w)
 obtain ⟨hc,hg⟩:=ev_ok (P:=P) (w0:=w) (drawOK hm) hnat n
 have hi:=hg _ _ _ _ _ hx (aEnv w) w (.func (.func f) #[] #[]) us (HR.start w) (by simp only [VR,VRs];exact ⟨[],[],rfl,rfl,rfl⟩) (aVs_ok w us)
 have e:(do let d←Deferred.ofValue (.func (.func f) #[] #[]) ⟨us⟩;invoke d.target d.args:Sem Next)=callFunc f ⟨us⟩:=by
  show callFunc f (#[] ++ ⟨us⟩ ++ #[])=_
  simp
 rw [e] at hi
 obtain ⟨fn,hP,hb,hno⟩:=hf
 have hrun:(callFunc f ⟨us⟩).run P w= .ok (.enter f ⟨us⟩) w:=by
  unfold numO at hno
  unfold callFunc
  have hb2:fn.body.isNone=false:=by cases h:fn.body with | none=>exact absurd h hb | some x=>rfl
  simp only [beq_eq_false_iff_ne] at hno
  simp [Sem.run_bind,Result.andThen,hP,hno,hb]
 rw [hrun] at hi
 refine Calls.mono (hi:Calls P f ⟨us⟩ w _) ?_
 rintro e w' ⟨u,rfl,env',h1,h2,h3,h4⟩
 exact ⟨u,env',rfl,h1,h2.bel⟩
theorem calls_of_true {P:Program} {nat:Nats} {f:Nat} {us:List Value} (w:World) (hv:Fv P nat (.f f [] []) (aVs w.heap.size us) (gW w) (.b true)) (hm:P.follows .mixedOrders=true) (hnat:NatOK P w nat)
  (hf:∃ fn,P.funcs[f]? =some fn∧fn.body≠none∧numO fn=false):Calls P f ⟨us⟩ w fun e w'=>e= .returned (.bool true)∧RowKit.Below w.heap.size w w':=by
 refine Calls.mono (calls_of_fv w hv hm hnat hf) ?_
 rintro e w' ⟨u,env',rfl,h2,h3⟩
 simp only [VR] at h2
 subst h2
 exact ⟨rfl,h3⟩
end Go.Ev
namespace Go.Ev
open Go
set_option linter.unusedVariables false
set_option linter.unusedSimpArgs false
section
variable {H:Type} (enc:TypeId × Value→H) (P:Program) (W:World)
def Tr (T:TypeId) (cs:List Value):Prop:=∃ fuel y,DataW.trod enc P W 0 (fun _=>true) true fuel T cs=some y
end
section
variable {H:Type} {enc:TypeId × Value→H} {P:Program} {W:World} {T:TypeId} {cs:List Value}
theorem Tr.int {k:IntKind} (ht:P.underlying T=some (.int k)) (h:Tr enc P W T cs):∃ n,cs=[.int k n]∧(Lit.int k n).wf=true:=by
 obtain ⟨fuel,y,h⟩:=h
 obtain ⟨n,h1,_,h2⟩:=DataW.trod_int ht h
 exact ⟨n,h1,h2⟩
theorem Tr.bool (ht:P.underlying T=some .bool) (h:Tr enc P W T cs):∃ n,cs=[.bool n]:=by
 obtain ⟨fuel,y,h⟩:=h
 obtain ⟨n,h1,_⟩:=DataW.trod_bool ht h
 exact ⟨n,h1⟩
theorem Tr.str (ht:P.underlying T=some .string) (h:Tr enc P W T cs):∃ s:ByteArray,cs=[.string s]∧s.size≤maxLen:=by
 obtain ⟨fuel,y,h⟩:=h
 obtain ⟨n,h1,_,h2⟩:=DataW.trod_string ht h
 exact ⟨n,h1,h2⟩
theorem Tr.struct {fs:Array Field} (ht:P.underlying T=some (.struct fs)) (h:Tr enc P W T cs):cs.length=P.cellsOf T∧∀ (i:Nat) (f:Field),fs[i]? =some f→Tr enc P W f.type ((cs.drop f.offset).take (P.cellsOf f.type)):=by
 obtain ⟨fuel,y,h⟩:=h
 obtain ⟨xs,n,_,_,h1,h2,h3⟩:=DataW.trod_struct ht h
 refine ⟨h1,fun i f hf=>?_⟩
 have hi:i < xs.length:=by rw [h2];exact (Array.getElem?_eq_some_iff.1 hf).1
 exact ⟨n,xs[i],by rw [h3 i f hf,List.getElem?_eq_getElem hi]⟩
theorem Tr.len {fs:Array Field} {n:Nat} (ht:P.underlying T=some (.struct fs)) (h:Tr enc P W T cs) (hn:P.cellsOf T=n):cs.length=n:=(h.struct ht).1.trans hn
theorem Tr.fld {fs:Array Field} (ht:P.underlying T=some (.struct fs)) (h:Tr enc P W T cs) (i:Nat) (T' o n:Nat) (hi:(fs[i]?).map (fun f=>(f.type,f.offset))=some (T',o)) (hn:P.cellsOf T'=n):Tr enc P W T' ((cs.drop o).take n):=by
 cases hf:fs[i]? with
 | none=>rw [hf] at hi;cases hi
 | some f=>
   rw [hf] at hi
   cases Option.some.inj hi
   subst hn
   exact (h.struct ht).2 i f hf
theorem Tr.elt {m n:Nat} {e:TypeId} (ht:P.underlying T=some (.array m e)) (h:Tr enc P W T cs) (hn:P.cellsOf e=n) (i:Nat) (hi:i < m):Tr enc P W e ((cs.drop (i * n)).take n):=by
 obtain ⟨fuel,y,h⟩:=h
 obtain ⟨xs,k,_,_,h1,h2,h3⟩:=DataW.trod_array ht h
 subst hn
 exact ⟨k,xs[i]'(by omega),by rw [h3 i hi,List.getElem?_eq_getElem]⟩
theorem Tr.array {n:Nat} {e:TypeId} (ht:P.underlying T=some (.array n e)) (h:Tr enc P W T cs):cs.length=P.cellsOf T∧∀ i,i < n→Tr enc P W e ((cs.drop (i * P.cellsOf e)).take (P.cellsOf e)):=by
 obtain ⟨fuel,y,h⟩:=h
 obtain ⟨xs,m,_,_,h1,h2,h3⟩:=DataW.trod_array ht h
 refine ⟨h1,fun i hi=>?_⟩
 exact ⟨m,xs[i]'(by omega),by rw [h3 i hi,List.getElem?_eq_getElem]⟩
theorem aVs_app (s:Nat):∀ a b:List Value,aVs s (a ++ b)=aVs s a ++ aVs s b
 | [],b=>by simp only [aVs,List.nil_append]
 | x :: a,b=>by simp only [aVs,List.cons_append,aVs_app s a b]
theorem aVs_get (s:Nat):∀ (l:List Value) (j:Nat),(aVs s l)[j]? =(l[j]?).map (aV s)
 | [],j=>by simp only [aVs,List.getElem?_nil,Option.map_none]
 | x :: l,0=>by simp only [aVs,List.getElem?_cons_zero,Option.map_some]
 | x :: l,j+1=>by simp only [aVs,List.getElem?_cons_succ,aVs_get s l j]
theorem aVs_drop (s:Nat) (l:List Value) (n:Nat):(aVs s l).drop n=aVs s (l.drop n):=by
 apply List.ext_getElem?
 intro j
 rw [List.getElem?_drop,aVs_get,aVs_get,List.getElem?_drop]
theorem aVs_take (s:Nat) (l:List Value) (n:Nat):(aVs s l).take n=aVs s (l.take n):=by
 apply List.ext_getElem?
 intro j
 rw [List.getElem?_take,aVs_get,aVs_get,List.getElem?_take]
 split <;> simp
theorem pt_of_cells {b o n:Nat} {s:Option Nat} (hn:0 < n) (h:W.cells? 0 ⟨b,o,s⟩ n=some cs):s=none∧cs.length=n∧Pt (gW W) b o (aVs W.heap.size cs):=by
 obtain ⟨_,hl,hc⟩:=World.cells?_some h
 have h0:=hc 0 hn
 have hs:s=none:=by
   unfold World.cell? at h0
   rw [List.getElem?_eq_getElem (by omega)] at h0
   cases s with
   | none=>rfl
   | some x=>
     simp only [Addr.add] at h0
     split at h0
     ·simp at h0
     ·cases h0
 subst hs
 have hc:∀ i,i < n→W.cell? ⟨b,o+i,none⟩=cs[i]? :=fun i hi=>by
   have:=hc i hi
   rwa [add_at] at this
 have h0:=hc 0 hn
 rw [List.getElem?_eq_getElem (by omega)] at h0
 unfold World.cell? at h0
 cases hb:W.heap[b]? with
 | none=>simp only [hb] at h0;cases h0
 | some x=>
   cases x with
   | cells C t fr=>
     have hcell:∀ i,i < n→C.toList[o+i]? =cs[i]? :=fun i hi=>by
      have:=hc i hi
      unfold World.cell? at this
      simp only [hb] at this
      simpa using this
     refine ⟨rfl,hl,aVs W.heap.size C.toList,t,?_,?_,?_⟩
     ·unfold gW;rw [hb];rfl
     ·rw [aVs_len,aVs_len]
      have:=hcell (n - 1) (by omega)
      rw [List.getElem?_eq_getElem (by omega:n - 1 < cs.length)] at this
      have:=(List.getElem?_eq_some_iff.1 this).1
      omega
     ·rw [aVs_len,aVs_drop,aVs_take]
      congr 1
      apply List.ext_getElem?
      intro j
      rw [List.getElem?_take,List.getElem?_drop]
      split
      ·exact hcell j (by omega)
      ·rw [List.getElem?_eq_none (by omega)]
   | _=>simp only [hb] at h0;cases h0
theorem Tr.rs {α:Type} {E:TypeId} {s:Nat} {R:G→List V→α→Prop} (ht:P.underlying T=some (.slice E)) (hs:P.cellsOf E=s) (h0:0 < s) (hR:∀ cs,Tr enc P W E cs→∃ d,R (gW W) (aVs W.heap.size cs) d) (h:Tr enc P W T cs):
  ∃ v l,cs=[v]∧RS R s (gW W) (aV W.heap.size v) l:=by
 obtain ⟨fuel,y,h⟩:=h
 rcases DataW.trod_slice ht h with ⟨rfl,_⟩ | ⟨a,len,cap,elems,rest,n,_,rfl,_,_,hlc,hcm,he1,he2,_,_⟩
 ·exact ⟨_,[],rfl,by simp,.inl ⟨by simp only [aV],rfl⟩⟩
 ·obtain ⟨b,o,sp⟩:=a
  unfold maxLen at hcm
  by_cases hl:len=0
  ·subst hl
   refine ⟨_,[],rfl,by simp,?_⟩
   simp only [aV]
   by_cases hb:b < W.heap.size∧sp=none
   ·rw [if_pos hb]
    exact .inr (.inr ⟨b,o,.sl (Nat.zero_le _),fun j x hx=>by simp at hx⟩)
   ·rw [if_neg hb]
    refine .inr (.inl ⟨?_,trivial⟩)
    rw [if_pos trivial]
    by_cases hc0:cap=0
    · rw [if_pos hc0];exact .inr rfl
    · rw [if_neg hc0];exact .inl rfl
  ·have el:∀ i,i < len→∃ cs',W.cells? 0 ((⟨b,o,sp⟩:Addr).add (i * s)) s=some cs'∧Tr enc P W E cs':=fun i hi=>by
    have h1:=he2 i hi
    rw [List.getElem?_eq_getElem (by omega),hs] at h1
    cases hc:W.cells? 0 ((⟨b,o,sp⟩:Addr).add (i * s)) s with
    | none=>rw [hc] at h1;cases h1
    | some cs'=>rw [hc] at h1;exact ⟨cs',rfl,n,_,h1⟩
   have hsp:sp=none:=by
    obtain ⟨cs',h1,_⟩:=el 0 (by omega)
    rw [Nat.zero_mul] at h1
    have e0:(⟨b,o,sp⟩:Addr).add 0=⟨b,o,sp⟩:=by simp [Addr.add]
    rw [e0] at h1
    exact (pt_of_cells h0 h1).1
   subst hsp
   have el2:∀ i,i < len→∃ d cs',W.cells? 0 ⟨b,o+i * s,none⟩ s=some cs'∧R (gW W) (aVs W.heap.size cs') d:=fun i hi=>by
    obtain ⟨cs',h1,h2⟩:=el i hi
    rw [add_at] at h1
    obtain ⟨d,hd⟩:=hR cs' h2
    exact ⟨d,cs',h1,hd⟩
   have hb:b < W.heap.size:=by
    obtain ⟨d,cs',h1,_⟩:=el2 0 (by omega)
    exact World.cells?_block h1 h0
   let f:Nat→α:=fun i=>if hi:i < len then (el2 i hi).choose else (el2 0 (by omega)).choose
   refine ⟨_,(List.range len).map f,rfl,by simp;omega,.inr (.inr ⟨b,o,by simp only [aV,if_pos (And.intro hb trivial),List.length_map,List.length_range];exact .sl hlc,fun j x hx=>?_⟩)⟩
   have hj:j < len:=by
    have:=(List.getElem?_eq_some_iff.1 hx).1
    simpa using this
   simp only [List.getElem?_map,List.getElem?_range hj,Option.map_some,Option.some.injEq] at hx
   subst hx
   have hfj:f j=(el2 j hj).choose:=dif_pos hj
   rw [hfj]
   obtain ⟨cs',h1,h2⟩:=(el2 j hj).choose_spec
   obtain ⟨_,h4,h5⟩:=pt_of_cells h0 h1
   exact ⟨aVs W.heap.size cs',by rw [aVs_len];exact h4,h5,h2⟩
end
end Go.Ev
