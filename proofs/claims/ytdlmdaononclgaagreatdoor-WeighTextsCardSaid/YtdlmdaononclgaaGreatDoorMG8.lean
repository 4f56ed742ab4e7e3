import Derived.Test.YtdlmdaononclgaaGreatDoorMG7
namespace Go.Ev
open Go
set_option linter.unusedVariables false
set_option linter.unusedSimpArgs false
section
variable (P:Program)
inductive Rl (al:AL) (g:G) (ml:ML):List ResultVar→List V→Prop
 | nil:Rl al g ml [] []
 | tmp {t:Nat} {v:V} {rs:List ResultVar} {vs:List V}:lk al t=some v→Rl al g ml rs vs→Rl al g ml (.tmp t :: rs) (v :: vs)
 | cell {a b:Nat} {t:TypeId} {v:V} {rs:List ResultVar} {vs:List V}:OpL P al g ml t (.tmp a) b v→Rl al g ml rs vs→Rl al g ml (.cell a t :: rs) (v :: vs)
def RetQ (rs:List ResultVar) (g0:G) (Post:G→ML→V→Prop):AQ:=fun e al g ml ds=>match e with
 | .exit _=>False
 | _=>ds=[]∧Le g0 g∧∃ vs v,Rl P al g ml rs vs∧resV (some vs)=some v∧Post g ml v
end
section
variable {P:Program} {nat:Nats} {N:Nat} {B:Base} {al:AL} {g g':G} {ml ml':ML}
noncomputable def numA (l:List V):Nat→AL→AL:=List.rec (fun _ al=>al) (fun v _ ih n al=>ih (n+1) ((n,v) :: al)) l
theorem fill_kn:∀ {l:List V} {n:Nat} {tm:TT V} {al:AL},Kn tm al→Kn (fill l n tm) (numA l n al)
 | [],_,_,_,h=>h
 | v :: l,n,tm,al,h=>fill_kn (l:=l) (h.set n v)
theorem Rl.get {tm:TT V} {h:H} (hk:Kn tm al) (s:St B g ml h):∀ {rs:List ResultVar} {vs:List V},Rl P al g ml rs vs→resL P tm h rs=some vs
 | [],_,.nil=>rfl
 | .tmp t :: rs,_,.tmp h1 h2=>by
   rename_i v vs
   have:=Rl.get hk s h2
   show (match res1 P tm h (.tmp t),resL P tm h rs with | some v,some vs=>some (v :: vs) | _,_=>none)=_
   rw [this]
   simp only [res1,hk t v h1]
 | .cell a t :: rs,_,.cell h1 h2=>by
   rename_i b v vs
   have:=Rl.get hk s h2
   show (match res1 P tm h (.cell a t),resL P tm h rs with | some v,some vs=>some (v :: vs) | _,_=>none)=_
   rw [this]
   obtain ⟨o,cs,tt,k1,k2,k3⟩:=h1
   have e:tget tm a= .p b o:=hk a _ k1
   simp only [res1,e,loadV_of (s.get k2) k3]
theorem Fw.enter {K:Nat} {fn:Func} {c:Code} {x y args:List V} {rs:List ResultVar} {Post:G→ML→V→Prop} (hf:P.funcs[K]? =some fn) (hnat:nat K=none) (hnum:numO fn=false) (hb:fn.body=some c) (hrs:fn.results.toList=rs)
   (hal:numA (lapp x (lapp args y)) 0 []=al) (hN:Nat.max (llen (lapp x (lapp args y))) fn.ntmps=N)
   (h:∀ B,Wc P nat none N B c al g ml [] (RetQ P rs g Post)):Fw P nat (.f K x y) args g ml Post:=fun m s=>by
 subst hal hN hrs
 obtain ⟨e,tm',ds',h',⟨n,r⟩,al',g',ml',k1,s1,q⟩:=h (Base.at m g ml) (fill (lapp x (lapp args y)) 0 .lf) m (fill_kn (Kn.nil _)) s
 have sh:ev P nat (n+1) (.call (.f K x y) args m)=sBody P fn.results.toList (ev P nat n (.code none (Nat.max (llen (lapp x (lapp args y))) fn.ntmps) c (fill (lapp x (lapp args y)) 0 .lf) [] m)):=by
   show sFn P (ev P nat n) K _ m (nat K)=_
   rw [hnat]
   show sFn1 P (ev P nat n) _ m P.funcs[K]? =_
   rw [hf]
   show Bool.rec (motive:=fun _=>Option Out) (sFn2 P (ev P nat n) fn _ m fn.body) none (numO fn)=_
   rw [hnum,hb]
   rfl
 rw [r] at sh
 cases e with
 | exit i=>exact q.elim
 | normal=>
   obtain ⟨rfl,hle,vs,v,q1,q2,q3⟩:=q
   refine ⟨v,h',g',ml',⟨n+1,?_⟩,s1,hle,q3⟩
   rw [sh]
   show valR h' (resV (resL P tm' h' fn.results.toList))=_
   rw [q1.get k1 s1,q2];rfl
 | ret=>
   obtain ⟨rfl,hle,vs,v,q1,q2,q3⟩:=q
   refine ⟨v,h',g',ml',⟨n+1,?_⟩,s1,hle,q3⟩
   rw [sh]
   show valR h' (resV (resL P tm' h' fn.results.toList))=_
   rw [q1.get k1 s1,q2];rfl
end
end Go.Ev
namespace Go.Ev
open Go
set_option linter.unusedVariables false
set_option linter.unusedSimpArgs false
structure Ri where
 anc:Nat
 st:Nat
 full:Bool
 half:Bool
noncomputable def tabF (ops:List Oper) (bf:List Nat):List Oper→Nat→List Ri:=
 List.rec (fun _=>[]) (fun o _ ih i=>⟨(lget bf i).getD 0,stF ((lget bf i).getD 0) ops 0 0 0,(ops.zipIdx).all fun (b,j)=>Nat.beq i j || !rdB b.op || Qbg bf i j,Bool.rec (Bool.rec false ((ops.zipIdx).all fun (b,j)=>Nat.beq i j || !rdB b.op || Qbg bf i j || Nat.beq (stF ((lget bf j).getD 0) ops 0 0 0) 0) (callB o.op)) false ((ops.zipIdx).all fun (b,j)=>Nat.beq i j || !rdB b.op || Qbg bf i j)⟩ :: ih (i+1))
noncomputable def rowT (o:Oper) (a:Ri) (i:Nat):Row:=⟨o,i,a.anc,effB o.op,rdB o.op,a.st,a.full,Bool.rec none (some i) (flB o.op),a.half⟩
noncomputable def rowsT:List Oper→List Ri→Nat→List Row
 | o :: l,a :: tb,i=>rowT o a i :: rowsT l tb (i+1)
 | _,_,_=>[]
theorem rows_eq (ops:List Oper) (bf:List Nat):rows ops bf=rowsT ops (tabF ops bf ops 0) 0:=by
 have main:∀ (l:List Oper) (i:Nat),(l.zipIdx i).map (fun (o,i)=>(⟨o,i,(lget bf i).getD 0,effB o.op,rdB o.op,stF ((lget bf i).getD 0) ops 0 0 0,(ops.zipIdx).all fun (b,j)=>Nat.beq i j || !rdB b.op || Qbg bf i j,Bool.rec none (some i) (flB o.op),Bool.rec (Bool.rec false ((ops.zipIdx).all fun (b,j)=>Nat.beq i j || !rdB b.op || Qbg bf i j || Nat.beq (stF ((lget bf j).getD 0) ops 0 0 0) 0) (callB o.op)) false ((ops.zipIdx).all fun (b,j)=>Nat.beq i j || !rdB b.op || Qbg bf i j)⟩:Row))=rowsT l (tabF ops bf l i) i:=by
  intro l
  induction l with
  | nil=>intro i;rfl
  | cons o l ih=>intro i;show _ :: _=_ :: _;rw [ih (i+1)];rfl
 exact main ops 0
abbrev Sg:=G × ML × Option Nat
abbrev Pd2:=Nat × Nat × Blk
def StS (B:Base) (p:H × Option Nat) (q:Sg):Prop:=St B q.1 q.2.1 p.1∧p.2=q.2.2
inductive Stk (B:Base):List (H × Option Nat)→List Sg→Prop
 | one {p:H × Option Nat} {q:Sg}:StS B p q→Stk B [p] [q]
 | cons {p:H × Option Nat} {q:Sg} {l:List (H × Option Nat)} {k:List Sg}:StS B p q→Stk B l k→Stk B (p :: l) (q :: k)
theorem Stk.head {B:Base} {hs:List (H × Option Nat)} {q:Sg} {k:List Sg} (h:Stk B hs (q :: k)):∃ p l,hs=p :: l∧StS B p q:=by
 cases h with
 | one h=>exact ⟨_,_,rfl,h⟩
 | cons h _=>exact ⟨_,_,rfl,h⟩
theorem Stk.len {B:Base} {hs:List (H × Option Nat)} {k:List Sg} (h:Stk B hs k):hs.length=k.length:=by
 induction h with
 | one=>rfl
 | cons _ _ ih=>simp [ih]
theorem Stk.get {B:Base} {hs:List (H × Option Nat)} {k:List Sg} (h:Stk B hs k):∀ {i:Nat} {q:Sg},lget k i=some q→∃ p,lget hs i=some p∧StS B p q:=by
 induction h with
 | one h=>
   intro i q hq
   cases i with
   | zero=>cases hq;exact ⟨_,rfl,h⟩
   | succ i=>cases hq
 | cons h _ ih=>
   intro i q hq
   cases i with
   | zero=>cases hq;exact ⟨_,rfl,h⟩
   | succ i=>exact ih hq
def FrS (B:Base) (b:Nat):Nat→List Sg→Prop
 | 0,_=>True
 | k+1,(g,ml,some c) :: r=>(∀ h,St B g ml h→c≠b)∧FrS B b k r
 | k+1,(g,ml,none) :: r=>FrS B b k r
 | _+1,[]=>True
theorem neO_of {m:Option Nat} {b:Nat} (h:m≠some b):neO m b=true:=by
 cases m with
 | none=>rfl
 | some c=>
   show Bool.rec (motive:=fun _=>Bool) true false (Nat.beq c b)=true
   cases hb:Nat.beq c b with
   | false=>rfl
   | true=>exact absurd (by rw [Nat.eq_of_beq_eq_true hb]) h
theorem freeMs_of {B:Base} {b:Nat}:∀ {k:Nat} {hs:List (H × Option Nat)} {sg:List Sg},Stk B hs sg→FrS B b k sg→freeMs b k hs=true
 | 0,hs,sg,_,_=>rfl
 | k+1,hs,sg,h,hf=>by
   cases h with
   | one h1=>
     rename_i p q
     obtain ⟨g,ml,mu⟩:=q
     show Bool.rec (motive:=fun _=>Bool) false (freeMs b k []) (neO p.2 b)=true
     have hn:freeMs b k []=true:=by cases k <;> rfl
     rw [h1.2,hn]
     cases mu with
     | none=>rfl
     | some c=>rw [neO_of (m:=some c) (fun e=>hf.1 _ h1.1 (Option.some.inj e))]
   | cons h1 h2=>
     rename_i p q l r
     obtain ⟨g,ml,mu⟩:=q
     show Bool.rec (motive:=fun _=>Bool) false (freeMs b k l) (neO p.2 b)=true
     rw [h1.2]
     cases mu with
     | none=>exact freeMs_of h2 hf
     | some c=>rw [neO_of (m:=some c) (fun e=>hf.1 _ h1.1 (Option.some.inj e))];exact freeMs_of h2 hf.2
def FrL (B:Base) (g:G) (ml:ML) (anc c:Nat):List (Nat × Nat)→Prop
 | []=>True
 | p :: r=>(bit anc p.1=true∨∀ h,St B g ml h→c≠p.2)∧FrL B g ml anc c r
noncomputable def allA (anc:Nat) (ls:List (Nat × Nat)):Bool:=List.rec true (fun p _ ih=>Bool.rec false ih (bit anc p.1)) ls
theorem FrL.all {B:Base} {g:G} {ml:ML} {anc c:Nat}:∀ {ls:List (Nat × Nat)},allA anc ls=true→FrL B g ml anc c ls
 | [],_=>trivial
 | p :: r,h=>by
   have h:Bool.rec (motive:=fun _=>Bool) false (allA anc r) (bit anc p.1)=true:=h
   cases hb:bit anc p.1 with
   | false=>rw [hb] at h;cases h
   | true=>rw [hb] at h;exact ⟨.inl hb,FrL.all h⟩
theorem freeOf_of {B:Base} {g:G} {ml:ML} {anc c:Nat} {h:H} (s:St B g ml h):∀ {ls:List (Nat × Nat)},FrL B g ml anc c ls→Qco anc (some c) ls=true
 | [],_=>rfl
 | p :: r,⟨h1,h2⟩=>by
   show Bool.rec (motive:=fun _=>Bool) (Bool.rec (motive:=fun _=>Bool) false (Qco anc (some c) r) (neO (some c) p.2)) (Qco anc (some c) r) (bit anc p.1)=true
   rw [freeOf_of s h2]
   cases hb:bit anc p.1 with
   | true=>rfl
   | false=>
     rcases h1 with h1 | h1
     ·rw [hb] at h1;cases h1
     ·rw [neO_of (m:=some c) (fun e=>h1 _ s (Option.some.inj e))]
theorem freeOf_none {anc:Nat}:∀ {ls:List (Nat × Nat)},Qco anc none ls=true
 | []=>rfl
 | p :: r=>by
   show Bool.rec (motive:=fun _=>Bool) (Bool.rec (motive:=fun _=>Bool) false (Qco anc none r) true) (Qco anc none r) (bit anc p.1)=true
   rw [freeOf_none]
   cases bit anc p.1 <;> rfl
structure Free (B:Base) (h:H) (b:Nat):Prop where
 none:h.get b=none
 lt:b < h.n
 le:B.n≤b
noncomputable def pinF (anc:Nat) (ps:List Pd2):List Pd2:=List.rec [] (fun p _ ih=>Bool.rec ih (p :: ih) (bit anc p.1)) ps
noncomputable def mlA (ps:List Pd2) (ml:ML):ML:=List.rec ml (fun p _ ih=>.blk p.2.1 p.2.2 :: ih) ps
theorem mergeA_eq (anc:Nat) (h:H):∀ ps:List Pd2,Ev.mergeA anc ps h=mergeL (pinF anc ps) h
 | []=>rfl
 | p :: r=>by
   show Bool.rec (motive:=fun _=>H) (Ev.mergeA anc r h) ((Ev.mergeA anc r h).put p.2.1 p.2.2) (bit anc p.1)=mergeL (Bool.rec (motive:=fun _=>List Pd2) (pinF anc r) (p :: pinF anc r) (bit anc p.1)) h
   rw [mergeA_eq anc h r]
   cases bit anc p.1 <;> rfl
theorem St.merge1 {B:Base} {g:G} {ml:ML} {h:H} (s:St B g ml h) {b:Nat} {x:Blk} (f:Free B h b):St B g (.blk b x :: ml) (h.put b x):=by
 have gt:∀ k,(h.put b x).get k=if k=b then some x else h.get k:=H.get_put h b x
 have hg:g b=none:=by
  cases hg:g b with
  | none=>rfl
  | some y=>have:=s.sub b y hg;rw [f.none] at this;cases this
 have hnm:∀ r∈ml,b ∉ r.fp:=fun r hr hb=>by
  have:=s.own r hr
  cases r with
  | blk c y=>
    have e:b=c:=by simpa [Res.fp] using hb
    subst e
    have:h.get b=some y:=this
    rw [f.none] at this;cases this
  | acc v s' cs t=>
    rcases this with ⟨he,_⟩ | ⟨c,n,hv,_,h2⟩
    ·rcases he with rfl | rfl | ⟨_,_,rfl⟩ <;> simp [Res.fp] at hb
    ·have e:b=c:=by rcases hv with rfl | ⟨_,rfl,rfl⟩ <;> simpa [Res.fp] using hb
     subst e
     rw [f.none] at h2;cases h2
 have hnf:b ∉ fps ml:=fun hb=>by
  obtain ⟨r,hr,hb⟩:=List.mem_flatMap.1 (show b∈ml.flatMap Res.fp from hb)
  exact hnm r hr hb
 refine ⟨fun k hk=>?_,s.fl,s.fln,s.le,fun k hk hW=>?_,fun k z hz=>?_,s.vis,fun r hr=>?_,?_,fun k hk=>?_⟩
 ·rw [gt,if_neg (by have:h.n≤k:=hk;have:=f.lt;omega)];exact s.wf k hk
 ·rw [gt,if_neg (by have:=f.le;omega)];exact s.old k hk hW
 ·rw [gt,if_neg (fun e=>by subst e;rw [hg] at hz;cases hz)];exact s.sub k z hz
 ·rcases List.mem_cons.1 hr with rfl | hr2
  · show (h.put b x).get b=some x
    rw [gt,if_pos rfl]
  · exact Res.ok_same (fun k hk=>by rw [gt,if_neg (fun (e:k=b)=>hnm r hr2 (e ▸ hk))]) (s.own r hr2)
 ·rw [Qax];show (b :: fps ml).Nodup;exact List.nodup_cons.2 ⟨hnf,s.nd⟩
 ·rw [Qax] at hk
  rcases List.mem_cons.1 hk with rfl | hk
  · exact ⟨hg,Nat.le_trans s.fln f.le,f.lt,fun hlt=>absurd f.le (by omega)⟩
  · exact s.fresh k hk
theorem Free.put {B:Base} {h:H} {b c:Nat} {x:Blk} (f:Free B h b) (hn:b≠c):Free B (h.put c x) b:=⟨by rw [H.get_put,if_neg hn];exact f.none,f.lt,f.le⟩
theorem St.mergeL {B:Base} {g:G} {ml:ML} {h:H} (s:St B g ml h):∀ {ps:List Pd2},(∀ p∈ps,Free B h p.2.1)→ps.Pairwise (fun p q=>p.2.1≠q.2.1)→St B g (mlA ps ml) (Ev.mergeL ps h)∧(∀ b,Free B h b→(∀ p∈ps,b≠p.2.1)→Free B (Ev.mergeL ps h) b)∧(Ev.mergeL ps h).n=h.n
 | [],_,_=>⟨s,fun _ f _=>f,rfl⟩
 | p :: ps,hf,hp=>by
   obtain ⟨h1,h2,h3⟩:=St.mergeL s (ps:=ps) (fun q hq=>hf q (List.mem_cons_of_mem _ hq)) (List.pairwise_cons.1 hp).2
   have f:=h2 _ (hf p List.mem_cons_self) fun q hq=>(List.pairwise_cons.1 hp).1 q hq
   exact ⟨h1.merge1 f,fun b fb hb=>(h2 b fb fun q hq=>hb q (List.mem_cons_of_mem _ hq)).put (hb p List.mem_cons_self),h3⟩
end Go.Ev
namespace Go.Ev
open Go
set_option linter.unusedVariables false
set_option linter.unusedSimpArgs false
def Kp (h h':H):Prop:=h.n≤h'.n∧∀ k,k < h.n→h.get k=none→h'.get k=none
theorem Kp.refl (h:H):Kp h h:=⟨Nat.le_refl _,fun _ _ h=>h⟩
theorem Kp.put {h:H} {b:Nat} {x y:Blk} (hb:h.get b=some y):Kp h (h.put b x):=⟨Nat.le_refl _,fun k _ hn=>by
 rw [H.get_put,if_neg (fun e=>by subst e;rw [hn] at hb;cases hb)];exact hn⟩
theorem Kp.new {h:H} {x:Blk}:Kp h (h.new x):=⟨Nat.le_succ _,fun k hk hn=>by rw [H.get_new,if_neg (by omega)];exact hn⟩
theorem Kp.trans {a b c:H} (h:Kp a b) (k:Kp b c):Kp a c:=⟨Nat.le_trans h.1 k.1,fun i hi hn=>k.2 i (Nat.lt_of_lt_of_le hi h.1) (h.2 i hi hn)⟩
theorem Free.kp {B:Base} {h h':H} {b:Nat} (f:Free B h b) (k:Kp h h'):Free B h' b:=⟨k.2 b f.lt f.none,Nat.lt_of_lt_of_le f.lt k.1,f.le⟩
theorem putV_kp {h h':H} {b o:Nat} {vs:List V} (hp:putV h b o vs=some h'):Kp h h':=by
 unfold putV at hp
 split at hp
 ·rename_i c t hb
  split at hp
  ·cases hp;exact .put hb
  ·cases hp
 ·cases hp
section
variable {P:Program}
theorem appendV_kp {h h':H} {t xT:TypeId} {x y v:V} (hp:appendV P h t xT x y=some (v,h')):Kp h h':=by
 unfold appendV at hp
 split at hp
 ·split at hp
  ·split at hp
   ·rename_i m cs _
    cases hm:Nat.beq m 0 with
    | true=>
      rw [hm] at hp
      have hp:app0 h x=some (v,h'):=hp
      unfold app0 at hp
      split at hp
      ·cases hp;exact .refl _
      ·split at hp
       ·cases hp;exact .refl _
       ·cases hp
      ·cases hp;exact .refl _
      ·cases hp;exact .refl _
      ·cases hp;exact .refl _
      ·cases hp
    | false=>
      rw [hm] at hp
      have hp:app1 h _ _ m cs x=some (v,h'):=hp
      unfold app1 at hp
      split at hp
      ·split at hp
       ·cases hp;exact .new
       ·cases hp
      ·unfold appSl at hp
       split at hp
       ·split at hp
        ·rename_i h2 hq;cases hp;exact putV_kp hq
        ·cases hp
       ·split at hp
        ·split at hp
         ·cases hp;exact .new
         ·cases hp
        ·split at hp
         ·split at hp
          ·cases hp;exact .new
          ·cases hp
         ·cases hp
      ·unfold appSu at hp
       split at hp
       ·rename_i hb
        split at hp
        ·cases hp;exact (Kp.put hb).trans .new
        ·cases hp
       ·cases hp
      ·split at hp
       ·cases hp;exact .new
       ·cases hp
      ·cases hp
   ·cases hp
  ·cases hp
 ·cases hp
theorem opV_kp {h h':H} {r:Operand→V} {o:Op} {v:V} (he:effB o=true) (hv:opV P h r o=some (v,h')):Kp h h':=by
 cases o with
 | store t a x=>
   simp only [opV,sto] at hv
   split at hv
   ·rename_i h1 hs
    cases hv
    unfold storeV at hs
    split at hs
    ·split at hs
     ·exact putV_kp hs
     ·cases hs
    ·cases hs
   ·cases hv
 | call c=>
   simp only [opV,callV] at hv
   split at hv
   ·rename_i b hc
    unfold biV at hv
    split at hv
    ·unfold bi1 at hv
     split at hv
     ·simp [effB,hc] at he
     ·cases hv
    ·unfold bi2 at hv
     split at hv
     ·exact appendV_kp hv
     ·simp [effB,hc] at he
     ·simp [effB,hc] at he
     ·cases hv
    ·cases hv
   ·cases hv
 | _=>cases he
end
structure Rs (B:Base) (K n0:Nat) (l:List Oper) (i:Nat) (sg:List Sg) (ls:List (Nat × Nat)) (ps:List Pd2) (S:Ms):Prop where
 eL:S.ls=ls
 eP:S.ps=ps
 hs:Stk B S.hs sg
 res:∀ h m rest,S.hs=(h,m) :: rest→(∀ k o,l[k]? =some o→flB o.op=true→Free B h (n0+(i+k)))∧∀ p∈ps,Free B h p.2.1
 pb:∀ p∈ps,p.2.1=n0+p.1∧p.1 < i
 pp:ps.Pairwise fun p q=>p.2.1≠q.2.1
 kk:kOf S.hs=K
 kf:B.fl≤K
 kb:∀ h m rest,S.hs=(h,m) :: rest→K≤h.n
section
variable (P:Program) (nat:Nats)
def Wd (K N:Nat) (B:Base) (ops l:List Oper) (tb:List Ri) (i:Nat) (al:AL) (sg:List Sg) (ls:List (Nat × Nat)) (ps:List Pd2) (Q:OQ):Prop:=
 ∀ n0 tm S,Kn tm al→Rs B K n0 l i sg ls ps S→∃ n tm' S',Qcp P (ev P nat n) n0 N ops (rowsT l tb i) tm S=some (tm',S')∧∃ h m rest,S'.hs=(h,m) :: rest∧∃ al' g' ml',Kn tm' al'∧St B g' ml' (mergeL S'.ps h)∧Q al' g' ml'
end
section
variable {P:Program} {nat:Nats} {ro:Option Nat} {K N:Nat} {B:Base} {al:AL} {ops l:List Oper} {a:Ri} {tb:List Ri} {i:Nat} {sg:List Sg} {ls:List (Nat × Nat)} {ps:List Pd2} {R:OQ} {d ty:Nat} {pos:String} {af:Array Edge} {gd:Option (Nat × Bool)}
theorem Qdc {go:Task→Option Out} {n0:Nat} {o:Oper} (tm:TT V) (S:Ms):Qcp P go n0 N ops (rowsT (o :: l) (a :: tb) i) tm S=Qcr P go n0 N ops (rowT o a i) (Qcp P go n0 N ops (rowsT l tb (i+1))) tm S:=rfl
theorem Rs.next {n0:Nat} {o:Oper} {S:Ms} (h:Rs B K n0 (o :: l) i sg ls ps S):Rs B K n0 l (i+1) sg ls ps S:=
 ⟨h.eL,h.eP,h.hs,fun m q rest e=>⟨fun k o2 h1 h2=>by
  have:=(h.res m q rest e).1 (k+1) o2 h1 h2
  rwa [show n0+(i+(k+1))=n0+(i+1+k) by omega] at this,(h.res m q rest e).2⟩,fun p hp=>⟨(h.pb p hp).1,Nat.lt_succ_of_lt (h.pb p hp).2⟩,h.pp,h.kk,h.kf,h.kb⟩
theorem Rs.kc {n0:Nat} {S:Ms} (h:Rs B K n0 l i sg ls ps S) (p:H × Option Nat):kOf (p :: S.hs)=K:=by
 have h1:=h.kk
 have h2:=h.hs
 cases hs:S.hs with
 | nil=>rw [hs] at h2;cases h2
 | cons q l2=>rw [hs] at h1;exact h1
theorem Wd.nil {g:G} {ml:ML} {mu:Option Nat} {rest:List Sg} (h:R al g (mlA ps ml)):Wd P nat K N B ops [] [] i al ((g,ml,mu) :: rest) ls ps R:=fun n0 tm S hk r=>by
 obtain ⟨p,l2,e,hst⟩:=r.hs.head
 refine ⟨0,tm,S,rfl,p.1,p.2,l2,e,al,g,mlA ps ml,hk,?_,h⟩
 rw [r.eP]
 exact (hst.1.mergeL (r.res p.1 p.2 l2 e).2 r.pp).1
theorem Wd.sub {al':AL} (hs:SubL al al') (h:Wd P nat K N B ops l tb i al' sg ls ps R):Wd P nat K N B ops l tb i al sg ls ps R:=fun n0 tm S hk r=>h n0 tm S (hk.sub hs) r
theorem Wd.p {o:Op} {v:V} (hg:Gd ops al gd) (hd:Nat.blt d N=true) (hp:OpP P al o v) (he:effB o=false) (hr:rdB o=false) (hf:flB o=false)
  (k:Wd P nat K N B ops l tb (i+1) ((d,v) :: al) sg ls ps R):Wd P nat K N B ops (⟨some d,o,ty,pos,af,gd⟩ :: l) (a :: tb) i al sg ls ps R:=fun n0 tm S hk r=>by
 obtain ⟨n,tm2,S2,r2,q⟩:=k n0 (tm.set d v) S (hk.set d v) r.next
 refine ⟨n,tm2,S2,?_,q⟩
 rw [Qdc]
 unfold Qcr
 have:∃ p l2,S.hs=p :: l2:=by cases hs:S.hs with
  | nil=>have:=r.hs;rw [hs] at this;cases this
  | cons p l2=>exact ⟨p,l2,rfl⟩
 obtain ⟨⟨m,mu⟩,l2,e⟩:=this
 rw [e]
 simp only [rowT,Gd.want (o:=⟨some d,o,ty,pos,af,gd⟩) hk hg]
 simp only [oneD,he,plD,hf,hr,hp.2 tm m hk,keepS,Qci hd]
 exact r2
theorem Wd.skip {o:Op} (hg:Gs ops al gd) (hd:Nat.blt d N=true) (he:effB o=false)
  (k:Wd P nat K N B ops l tb (i+1) ((d,.tup []) :: al) sg ls ps R):Wd P nat K N B ops (⟨some d,o,ty,pos,af,gd⟩ :: l) (a :: tb) i al sg ls ps R:=fun n0 tm S hk r=>by
 obtain ⟨n,tm2,S2,r2,q⟩:=k n0 (tm.set d (.tup [])) S (hk.set d _) r.next
 refine ⟨n,tm2,S2,?_,q⟩
 rw [Qdc]
 unfold Qcr
 have:∃ p l2,S.hs=p :: l2:=by cases hs:S.hs with
  | nil=>have:=r.hs;rw [hs] at this;cases this
  | cons p l2=>exact ⟨p,l2,rfl⟩
 obtain ⟨⟨m,mu⟩,l2,e⟩:=this
 rw [e]
 simp only [rowT,Gs.want (o:=⟨some d,o,ty,pos,af,gd⟩) hk hg,Qci hd,skipS,he]
 exact r2
theorem Wd.ld {t:TypeId} {x:Operand} {b:Nat} {v:V} {k:Nat} {g:G} {ml:ML} {mu:Option Nat} (hg:Gd ops al gd) (hd:Nat.blt d N=true) (hk0:sg.length - 1 - a.st=k) (hq:lget sg k=some (g,ml,mu)) (hf:FrS B b k sg) (hp:OpL P al g ml t x b v)
  (kk:Wd P nat K N B ops l tb (i+1) ((d,v) :: al) sg ((i,b) :: ls) ps R):Wd P nat K N B ops (⟨some d,.load t x,ty,pos,af,gd⟩ :: l) (a :: tb) i al sg ls ps R:=fun n0 tm S hk r=>by
 have rn:=r.next
 obtain ⟨n,tm2,S2,r2,q⟩:=kk n0 (tm.set d v) ⟨S.hs,(i,b) :: S.ls,S.ps⟩ (hk.set d v) ⟨by rw [r.eL],r.eP,r.hs,rn.res,rn.pb,rn.pp,r.kk,r.kf,r.kb⟩
 refine ⟨n,tm2,S2,?_,q⟩
 rw [Qdc]
 unfold Qcr
 have:∃ p l2,S.hs=p :: l2:=by cases hs:S.hs with
  | nil=>have:=r.hs;rw [hs] at this;cases this
  | cons p l2=>exact ⟨p,l2,rfl⟩
 obtain ⟨⟨m,mu2⟩,l2,e⟩:=this
 obtain ⟨o,cs,tt,h1,h2,h3⟩:=hp
 obtain ⟨⟨h0,m0⟩,e0,st0⟩:=r.hs.get hq
 have hlen:llen S.hs - 1 - a.st=k:=by rw [Qao,r.hs.len];exact hk0
 have hload:opV P h0 (ev0 tm) (.load t x)=some (v,h0):=by simp only [opV,hk.ev h1,loadV_of (st0.1.get h2) h3];rfl
 have hone:oneD P (ev P nat n) n0 (ev0 tm) (rowT ⟨some d,.load t x,ty,pos,af,gd⟩ a i) S m=some (v,⟨S.hs,(i,b) :: S.ls,S.ps⟩):=by
  show rdD P (ev0 tm) (rowT ⟨some d,.load t x,ty,pos,af,gd⟩ a i) S (blkV (ev0 tm x))=_
  rw [hk.ev h1]
  show rdD P (ev0 tm) (rowT ⟨some d,.load t x,ty,pos,af,gd⟩ a i) S (some b)=_
  unfold rdD
  show (match freeMs b (llen S.hs - 1 - a.st) S.hs with | true=>(match lget S.hs (llen S.hs - 1 - a.st) with | some (h0,_)=>keepS ⟨S.hs,(i,b) :: S.ls,S.ps⟩ (opV P h0 (ev0 tm) (.load t x)) | none=>none) | false=>none)=_
  rw [hlen,freeMs_of r.hs hf,e0]
  simp only [hload,keepS]
 simp only [e]
 have hw:=Gd.want (o:=⟨some d,.load t x,ty,pos,af,gd⟩) hk hg
 show (match wantV ops (tget tm) ⟨some d,.load t x,ty,pos,af,gd⟩ with | some true=>_ | some false=>_ | none=>none)=_
 rw [hw]
 simp only [hone]
 show (match putT N tm v (some d) with | some tm'=>_ | none=>none)=_
 rw [Qci hd]
 exact r2
theorem Wd.f {o:Op} {f:Nat→V} {x:Blk} (hg:Gd ops al gd) (hd:Nat.blt d N=true) (hp:OpF P al o f x)
  (k:∀ b,Wd P nat K N B ops l tb (i+1) ((d,f b) :: al) sg ls ((i,b,x) :: ps) R):Wd P nat K N B ops (⟨some d,o,ty,pos,af,gd⟩ :: l) (a :: tb) i al sg ls ps R:=fun n0 tm S hk r=>by
 have rn:=r.next
 obtain ⟨n,tm2,S2,r2,q⟩:=k (n0+i) n0 (tm.set d (f (n0+i))) ⟨S.hs,S.ls,(i,n0+i,x) :: S.ps⟩ (hk.set d _) ⟨r.eL,by rw [r.eP],r.hs,fun h m rest e=>⟨(rn.res h m rest e).1,fun p hp2=>by
    rcases List.mem_cons.1 hp2 with rfl | hp2
    ·exact (r.res h m rest e).1 0 _ rfl hp.1
    ·exact (rn.res h m rest e).2 p hp2⟩,fun p hp2=>by
    rcases List.mem_cons.1 hp2 with rfl | hp2
    ·exact ⟨rfl,Nat.lt_succ_self _⟩
    ·exact rn.pb p hp2,List.pairwise_cons.2 ⟨fun q hq=>by have:=r.pb q hq;show n0+i≠q.2.1;omega,r.pp⟩,r.kk,r.kf,r.kb⟩
 refine ⟨n,tm2,S2,?_,q⟩
 rw [Qdc]
 unfold Qcr
 have:∃ p l2,S.hs=p :: l2:=by cases hs:S.hs with
  | nil=>have:=r.hs;rw [hs] at this;cases this
  | cons p l2=>exact ⟨p,l2,rfl⟩
 obtain ⟨⟨m,mu2⟩,l2,e⟩:=this
 have he:effB o=false:=by cases o <;> first | rfl | (have:=hp.1;cases this)
 have hone:oneD P (ev P nat n) n0 (ev0 tm) (rowT ⟨some d,o,ty,pos,af,gd⟩ a i) S m=some (f (n0+i),⟨S.hs,S.ls,(i,n0+i,x) :: S.ps⟩):=by
  unfold oneD
  simp only [rowT,he,hp.1,plD,hp.2 tm ⟨.lf,n0+i,0⟩ hk,flD2]
  rw [H.get_new,if_pos rfl]
 simp only [e]
 have hw:=Gd.want (o:=⟨some d,o,ty,pos,af,gd⟩) hk hg
 show (match wantV ops (tget tm) ⟨some d,o,ty,pos,af,gd⟩ with | some true=>_ | some false=>_ | none=>none)=_
 rw [hw]
 simp only [hone]
 show (match putT N tm _ (some d) with | some tm'=>_ | none=>none)=_
 rw [Qci hd]
 exact r2
theorem mergeA_st {g:G} {ml:ML} {h:H} {n0:Nat} {S:Ms} {m:Option Nat} {rest:List (H × Option Nat)} (r:Rs B K n0 l i sg ls ps S) (e:S.hs=(h,m) :: rest) (s:St B g ml h) (anc:Nat) {pin pout:List Pd2} (h1:pinF anc ps=pin) (h2:restA anc ps=pout):
  St B g (mlA pin ml) (Ev.mergeA anc ps h)∧(Ev.mergeA anc ps h).n=h.n∧(Ev.mergeA anc ps h).fl=h.fl∧(∀ k o,l[k]? =some o→flB o.op=true→Free B (Ev.mergeA anc ps h) (n0+(i+k)))∧(∀ p∈pout,Free B (Ev.mergeA anc ps h) p.2.1)∧(∀ p∈pout,p∈ps)∧pout.Pairwise fun p q=>p.2.1≠q.2.1:=by
 subst h1 h2
 rw [mergeA_eq]
 have hsub:∀ q:List Pd2,(∀ p∈pinF anc q,p∈q∧bit anc p.1=true)∧(pinF anc q).Sublist q:=by
  intro q
  induction q with
  | nil=>exact ⟨fun p hp=>(by cases hp),List.Sublist.refl _⟩
  | cons p q ih=>
    have e:pinF anc (p :: q)=Bool.rec (motive:=fun _=>List Pd2) (pinF anc q) (p :: pinF anc q) (bit anc p.1):=rfl
    rw [e]
    cases hb:bit anc p.1 with
    | false=>exact ⟨fun x hx=>⟨List.mem_cons_of_mem _ (ih.1 x hx).1,(ih.1 x hx).2⟩,ih.2.cons _⟩
    | true=>exact ⟨fun x hx=>by
       rcases List.mem_cons.1 hx with rfl | hx
       ·exact ⟨List.mem_cons_self,hb⟩
       ·exact ⟨List.mem_cons_of_mem _ (ih.1 x hx).1,(ih.1 x hx).2⟩,ih.2.cons_cons _⟩
 obtain ⟨f1,f2⟩:=r.res h m rest e
 have rm:=fun (p:Pd2) (hp:p∈restA anc ps)=>restA_mem hp
 have hpi:=hsub ps
 obtain ⟨s1,s2,s3⟩:=s.mergeL (ps:=pinF anc ps) (fun p hp=>f2 p (hpi.1 p hp).1) (r.pp.sublist hpi.2)
 have sfl:(Ev.mergeL (pinF anc ps) h).fl=h.fl:=s1.fl.trans s.fl.symm
 refine ⟨s1,s3,sfl,fun k o h1 h2=>s2 _ (f1 k o h1 h2) fun p hp=>?_,fun p hp=>s2 _ (f2 p (rm p hp).1) fun q hq=>?_,fun p hp=>(rm p hp).1,r.pp.sublist (restA_sub ps)⟩
 ·have:=r.pb p (hpi.1 p hp).1;omega
 ·have h3:=(hpi.1 q hq).2
  have h4:=(rm p hp).2
  have h5:=r.pb p (rm p hp).1
  have h6:=r.pb q (hpi.1 q hq).1
  intro e
  have:p.1=q.1:=by omega
  rw [this,h3] at h4;cases h4
theorem Wd.eff {o:Op} {g:G} {ml:ML} {mu mo:Option Nat} {rest:List Sg} {pin pout:List Pd2} {mlf:V→ML} {od:Option Nat} (hg:Gd ops al gd) (he:effB o=true) (hc:Qbh o=none) (h1:pinF a.anc ps=pin) (h2:restA a.anc ps=pout)
  (hmo:∀ tm,Kn tm al→modO (ev0 tm) o=mo) (hfr:∀ c,mo=some c→FrL B g (mlA pin ml) a.anc c ls)
  (hp:∀ tm h,Kn tm al→St B g (mlA pin ml) h→∃ v h',opV P h (ev0 tm) o=some (v,h')∧St B g (mlf v) h')
  (k:∀ v n0 tm S,Kn tm al→Rs B K n0 l (i+1) ((g,mlf v,mo) :: (g,ml,mu) :: rest) ls pout S→∃ n tm2 tm' S',putT N tm v od=some tm2∧Qcp P (ev P nat n) n0 N ops (rowsT l tb (i+1)) tm2 S=some (tm',S')∧∃ h m rest,S'.hs=(h,m) :: rest∧∃ al' g' ml',Kn tm' al'∧St B g' ml' (mergeL S'.ps h)∧R al' g' ml'):
  Wd P nat K N B ops (⟨od,o,ty,pos,af,gd⟩ :: l) (a :: tb) i al ((g,ml,mu) :: rest) ls ps R:=fun n0 tm S hk r=>by
 obtain ⟨⟨m,nu⟩,l2,e,hst⟩:=r.hs.head
 obtain ⟨s1,sn,sfl,sf1,sf2,sin,spp⟩:=mergeA_st r.next e hst.1 a.anc h1 h2
 obtain ⟨v,h',hv,s'⟩:=hp tm _ hk s1
 have kp:=opV_kp he hv
 have rs:Rs B K n0 l (i+1) ((g,mlf v,mo) :: (g,ml,mu) :: rest) ls pout ⟨(h',mo) :: S.hs,S.ls,restA a.anc S.ps⟩:=by
  refine ⟨r.eL,by show restA a.anc S.ps=pout;rw [r.eP,h2],.cons ⟨s',rfl⟩ r.hs,fun h3 m3 r3 e3=>?_,fun p hp=>r.next.pb p (sin p hp),spp,r.kc _,r.kf,fun h3 m3 r3 e3=>by cases e3;exact Nat.le_trans (r.kb m nu l2 e) (sn ▸ kp.1)⟩
  cases e3
  exact ⟨fun k o2 a1 a2=>(sf1 k o2 a1 a2).kp kp,fun p hp=>(sf2 p hp).kp kp⟩
 obtain ⟨n,tm2,tm',S',hput,r2,q⟩:=k v n0 tm _ hk rs
 refine ⟨n,tm',S',?_,q⟩
 rw [Qdc]
 unfold Qcr
 rw [e]
 have hw:=Gd.want (o:=⟨od,o,ty,pos,af,gd⟩) hk hg
 show (match wantV ops (tget tm) ⟨od,o,ty,pos,af,gd⟩ with | some true=>_ | some false=>_ | none=>none)=_
 rw [hw]
 have hone:oneD P (ev P nat n) n0 (ev0 tm) (rowT ⟨od,o,ty,pos,af,gd⟩ a i) S m=some (v,⟨(h',mo) :: S.hs,S.ls,restA a.anc S.ps⟩):=by
  unfold oneD
  simp only [rowT,he]
  unfold effE
  simp only [hc,effD,hmo tm hk]
  have hfree:Qco a.anc mo S.ls=true:=by
    rw [r.eL]
    cases hmo2:mo with
    | none=>exact freeOf_none
    | some c=>exact freeOf_of s1 (hfr c hmo2)
  rw [hfree,r.eP]
  simp only [hv,addH]
 simp only [hone]
 show (match putT N tm v od with | some tm'=>_ | none=>none)=_
 rw [hput]
 exact r2
theorem Wd.st {t:TypeId} {x y:Operand} {g:G} {ml ml':ML} {mu:Option Nat} {rest:List Sg} {pin pout:List Pd2} {b o n tt:Nat} {v:V} {vs cs cs':List V} (hg:Gd ops al gd) (h1:pinF a.anc ps=pin) (h2:restA a.anc ps=pout)
  (hx:vA al x=some (.p b o)) (hy:vA al y=some v) (hn:v.any? =false) (hc:v.cells=vs) (hs:szO P t=some n) (hv:llen vs=n) (h3:setL cs o vs=cs') (hr:Rp (.blk b (.cells cs tt)) (.blk b (.cells cs' tt)) (mlA pin ml) ml') (hl:Nat.ble (o+n) (llen cs)=true) (ha:Qcd vs=true)
  (hfr:FrL B g (mlA pin ml) a.anc b ls)
  (k:Wd P nat K N B ops l tb (i+1) al ((g,ml',some b) :: (g,ml,mu) :: rest) ls pout R):
  Wd P nat K N B ops (⟨none,.store t x y,ty,pos,af,gd⟩ :: l) (a :: tb) i al ((g,ml,mu) :: rest) ls ps R:=
 Wd.eff (mo:=some b) (mlf:=fun _=>ml') hg rfl rfl h1 h2 (fun tm hk=>by simp only [modO,hk.ev hx,blkV]) (fun c e=>by cases e;exact hfr)
  (fun tm h hk s=>by obtain ⟨h',q1,q2⟩:=OpM.store hx hy hn hc hs hv h3 hr hl ha tm h hk s;exact ⟨_,h',q1,q2⟩)
  (fun v n0 tm S hk r=>by obtain ⟨n,tm',S',q1,q2⟩:=k n0 tm S hk r;exact ⟨n,tm,tm',S',rfl,q1,q2⟩)
theorem Wd.x {o:Op} {g:G} {ml:ML} {mu mo:Option Nat} {rest:List Sg} {pin pout:List Pd2} {mlf:V→ML} (hg:Gd ops al gd) (hd:Nat.blt d N=true) (he:effB o=true) (h1:pinF a.anc ps=pin) (h2:restA a.anc ps=pout)
  (hmo:∀ tm,Kn tm al→modO (ev0 tm) o=mo) (hfr:∀ c,mo=some c→FrL B g (mlA pin ml) a.anc c ls)
  (hp:OpX P B al g (mlA pin ml) o mlf)
  (k:∀ v,Wd P nat K N B ops l tb (i+1) ((d,v) :: al) ((g,mlf v,mo) :: (g,ml,mu) :: rest) ls pout R):
  Wd P nat K N B ops (⟨some d,o,ty,pos,af,gd⟩ :: l) (a :: tb) i al ((g,ml,mu) :: rest) ls ps R:=
 Wd.eff hg he hp.1 h1 h2 hmo hfr hp.2
  (fun v n0 tm S hk r=>by obtain ⟨n,tm',S',q1,q2⟩:=k v n0 (tm.set d v) S (hk.set d v) r;exact ⟨n,_,tm',S',Qci hd,q1,q2⟩)
theorem Wd.callK {f:Operand} {xs:Array Operand} {ats:Array TypeId} {g:G} {ml:ML} {mu:Option Nat} {rest:List Sg} {pin pout:List Pd2} {fv:V} {args:List V} {Post:G→ML→V→Prop} (hg:Gd ops al gd) (hd:Nat.blt d N=true) (h1:pinF a.anc ps=pin) (h2:restA a.anc ps=pout)
  (hf:vA al f=some fv) (hx:vAs al xs.toList=some args) (hw:Fw P nat fv args g [] Post)
  (k:∀ g' ml' r,Le g g'→Post g' ml' r→(∀ b∈fps ml',K≤b)→Wd P nat K N B ops l tb (i+1) ((d,r) :: al) ((g',ml' ++ mlA pin ml,none) :: (g,ml,mu) :: rest) ls pout R):
  Wd P nat K N B ops (⟨some d,.call ⟨.value f,xs,ats⟩,ty,pos,af,gd⟩ :: l) (a :: tb) i al ((g,ml,mu) :: rest) ls ps R:=fun n0 tm S hk r=>by
 obtain ⟨⟨m,nu⟩,l2,e,hst⟩:=r.hs.head
 obtain ⟨s1,sn,sfl,sf1,sf2,sin,spp⟩:=mergeA_st r.next e hst.1 a.anc h1 h2
 generalize hM:Ev.mergeA a.anc ps m=M at s1 sn sfl sf1 sf2
 have main:∃ n1 v h' g' ml',(match a.full with
     | true=>addH ⟨S.hs,S.ls,restA a.anc S.ps⟩ none (valO (ev P nat n1 (.call fv args M)))
     | false=>addH ⟨S.hs,S.ls,restA a.anc S.ps⟩ none (lower M.fl (valO (ev P nat n1 (.call fv args (raise (kR ⟨S.hs,S.ls,restA a.anc S.ps⟩ (rowT ⟨some d,.call ⟨.value f,xs,ats⟩,ty,pos,af,gd⟩ a i) M) M))))))=some (v,⟨(h',none) :: S.hs,S.ls,restA a.anc S.ps⟩)∧(∀ n2,n1≤n2→(match a.full with
     | true=>addH ⟨S.hs,S.ls,restA a.anc S.ps⟩ none (valO (ev P nat n2 (.call fv args M)))
     | false=>addH ⟨S.hs,S.ls,restA a.anc S.ps⟩ none (lower M.fl (valO (ev P nat n2 (.call fv args (raise (kR ⟨S.hs,S.ls,restA a.anc S.ps⟩ (rowT ⟨some d,.call ⟨.value f,xs,ats⟩,ty,pos,af,gd⟩ a i) M) M))))))=some (v,⟨(h',none) :: S.hs,S.ls,restA a.anc S.ps⟩))∧St B g' (ml' ++ mlA pin ml) h'∧Kp M h'∧Le g g'∧Post g' ml' v∧∀ b∈fps ml',K≤b:=by
  have s0:St (Base.at M g []) g [] M:=s1.self [] ⟨mlA pin ml,by simp⟩
  have kM:K≤M.n:=by rw [sn];exact r.kb m nu l2 e
  have nw:∀ {g':G} {ml':ML} {h':H} {fl:Nat},St (Base.at (⟨M.t,M.n,fl⟩:H) g []) g' ml' h'→∀ b∈fps ml',K≤b:=fun k1 b hb=>by
    obtain ⟨_,_,_,f4⟩:=k1.fresh b hb
    rcases Nat.lt_or_ge b M.n with h | h
    ·cases f4 h
    ·exact Nat.le_trans kM h
  cases a.full with
  | true=>
    obtain ⟨v,h',g',ml',⟨n1,r1⟩,k1,k2,k3⟩:=hw M s0
    have q:∀ n2,n1≤n2→addH ⟨S.hs,S.ls,restA a.anc S.ps⟩ none (valO (ev P nat n2 (.call fv args M)))=some (v,⟨(h',none) :: S.hs,S.ls,restA a.anc S.ps⟩):=fun n2 hn=>by rw [ev_le hn _ _ r1];rfl
    refine ⟨n1,v,h',g',ml',q n1 (Nat.le_refl _),q,?_,⟨k1.le,fun b hb hn=>(k1.old b hb (by intro h;cases h)).trans hn⟩,k2,k3,nw k1⟩
    exact (St.frame (F:=mlA pin ml) (I:=[]) (by rw [List.append_nil];exact s1) k1).perm List.perm_append_comm
  | false=>
    have hkr:M.fl≤kR ⟨S.hs,S.ls,restA a.anc S.ps⟩ (rowT ⟨some d,.call ⟨.value f,xs,ats⟩,ty,pos,af,gd⟩ a i) M∧kR ⟨S.hs,S.ls,restA a.anc S.ps⟩ (rowT ⟨some d,.call ⟨.value f,xs,ats⟩,ty,pos,af,gd⟩ a i) M≤M.n:=by
     unfold kR
     cases (rowT ⟨some d,.call ⟨.value f,xs,ats⟩,ty,pos,af,gd⟩ a i).half with
     | false=>exact ⟨s0.fln,Nat.le_refl _⟩
     | true=>
       refine ⟨?_,?_⟩
       ·show M.fl≤kOf S.hs
        rw [r.kk,sfl,hst.1.fl]
        exact r.kf
       ·show kOf S.hs≤M.n
        rw [r.kk]
        exact kM
    have s00:St (Base.at (raise (kR ⟨S.hs,S.ls,restA a.anc S.ps⟩ (rowT ⟨some d,.call ⟨.value f,xs,ats⟩,ty,pos,af,gd⟩ a i) M) M) g []) g [] (raise (kR ⟨S.hs,S.ls,restA a.anc S.ps⟩ (rowT ⟨some d,.call ⟨.value f,xs,ats⟩,ty,pos,af,gd⟩ a i) M) M):=⟨s0.wf,rfl,hkr.2,Nat.le_refl _,fun _ _ _=>rfl,s0.sub,fun _ _ hx _=>.inl hx,fun r hr=>(by cases hr),List.nodup_nil,fun b hb=>(by cases hb)⟩
    obtain ⟨v,h',g',ml',⟨n1,r1⟩,k1,k2,k3⟩:=hw (raise (kR ⟨S.hs,S.ls,restA a.anc S.ps⟩ (rowT ⟨some d,.call ⟨.value f,xs,ats⟩,ty,pos,af,gd⟩ a i) M) M) s00
    have q:∀ n2,n1≤n2→addH ⟨S.hs,S.ls,restA a.anc S.ps⟩ none (lower M.fl (valO (ev P nat n2 (.call fv args (raise (kR ⟨S.hs,S.ls,restA a.anc S.ps⟩ (rowT ⟨some d,.call ⟨.value f,xs,ats⟩,ty,pos,af,gd⟩ a i) M) M)))))=some (v,⟨(⟨h'.t,h'.n,M.fl⟩,none) :: S.hs,S.ls,restA a.anc S.ps⟩):=fun n2 hn=>by rw [ev_le hn _ _ r1];rfl
    have hok:∀ (r:Res),r.ok h'→r.ok ⟨h'.t,h'.n,M.fl⟩:=fun r hr=>by cases r <;> exact hr
    have kl:St (Base.at M g []) g' ml' ⟨h'.t,h'.n,M.fl⟩:=⟨k1.wf,rfl,s0.fln,k1.le,k1.old,k1.sub,k1.vis,fun r hr=>hok r (k1.own r hr),k1.nd,fun b hb=>by
     obtain ⟨f1,f2,f3,f4⟩:=k1.fresh b hb
     exact ⟨f1,Nat.le_trans hkr.1 f2,f3,f4⟩⟩
    refine ⟨n1,v,⟨h'.t,h'.n,M.fl⟩,g',ml',q n1 (Nat.le_refl _),q,?_,⟨k1.le,fun b hb hn=>(k1.old b hb (by intro h;cases h)).trans hn⟩,k2,k3,nw k1⟩
    exact (St.frame (F:=mlA pin ml) (I:=[]) (by rw [List.append_nil];exact s1) kl).perm List.perm_append_comm
 obtain ⟨n1,v,h',g',ml',q1,q1m,q2,kp,q3,q4,q5⟩:=main
 have rs:Rs B K n0 l (i+1) ((g',ml' ++ mlA pin ml,none) :: (g,ml,mu) :: rest) ls pout ⟨(h',none) :: S.hs,S.ls,restA a.anc S.ps⟩:=by
  refine ⟨r.eL,by show restA a.anc S.ps=pout;rw [r.eP,h2],.cons ⟨q2,rfl⟩ r.hs,fun h3 m3 r3 e3=>?_,fun p hp=>r.next.pb p (sin p hp),spp,r.kc _,r.kf,fun h3 m3 r3 e3=>by cases e3;exact Nat.le_trans (r.kb m nu l2 e) (sn ▸ kp.1)⟩
  cases e3
  exact ⟨fun k o2 a1 a2=>(sf1 k o2 a1 a2).kp kp,fun p hp=>(sf2 p hp).kp kp⟩
 obtain ⟨n2,tm',S',r2,q⟩:=k g' ml' v q3 q4 q5 n0 (tm.set d v) _ (hk.set d v) rs
 refine ⟨max n1 n2,tm',S',?_,q⟩
 rw [Qdc]
 unfold Qcr
 rw [e]
 have hw:=Gd.want (o:=⟨some d,.call ⟨.value f,xs,ats⟩,ty,pos,af,gd⟩) hk hg
 show (match wantV ops (tget tm) ⟨some d,.call ⟨.value f,xs,ats⟩,ty,pos,af,gd⟩ with | some true=>_ | some false=>_ | none=>none)=_
 rw [hw]
 have hone:oneD P (ev P nat (max n1 n2)) n0 (ev0 tm) (rowT ⟨some d,.call ⟨.value f,xs,ats⟩,ty,pos,af,gd⟩ a i) S m=some (v,⟨(h',none) :: S.hs,S.ls,restA a.anc S.ps⟩):=by
  show effD P _ (ev0 tm) _ ⟨S.hs,S.ls,restA a.anc S.ps⟩ (Ev.mergeA a.anc S.ps m) (some (f,xs.toList))=_
  unfold effD
  rw [r.eP,hM]
  show (match a.full with
     | true=>addH ⟨S.hs,S.ls,restA a.anc ps⟩ none (valO (ev P nat _ (.call (ev0 tm f) (lmap (ev0 tm) xs.toList) M)))
     | false=>addH ⟨S.hs,S.ls,restA a.anc ps⟩ none (lower M.fl (valO (ev P nat _ (.call (ev0 tm f) (lmap (ev0 tm) xs.toList) (raise (kR ⟨S.hs,S.ls,restA a.anc S.ps⟩ (rowT ⟨some d,.call ⟨.value f,xs,ats⟩,ty,pos,af,gd⟩ a i) M) M))))))=_
  rw [hk.ev hf,hk.evs hx, ←r.eP]
  exact q1m _ (Nat.le_max_left n1 n2)
 simp only [hone]
 show (match putT N tm v (some d) with | some tm'=>_ | none=>none)=_
 rw [Qci hd]
 exact runRows_mono (ev_le (Nat.le_max_right n1 n2)) r2
theorem Wd.call {f:Operand} {xs:Array Operand} {ats:Array TypeId} {g:G} {ml:ML} {mu:Option Nat} {rest:List Sg} {pin pout:List Pd2} {fv:V} {args:List V} {Post:G→ML→V→Prop} (hg:Gd ops al gd) (hd:Nat.blt d N=true) (h1:pinF a.anc ps=pin) (h2:restA a.anc ps=pout)
  (hf:vA al f=some fv) (hx:vAs al xs.toList=some args) (hw:Fw P nat fv args g [] Post)
  (k:∀ g' ml' r,Le g g'→Post g' ml' r→Wd P nat K N B ops l tb (i+1) ((d,r) :: al) ((g',ml' ++ mlA pin ml,none) :: (g,ml,mu) :: rest) ls pout R):
  Wd P nat K N B ops (⟨some d,.call ⟨.value f,xs,ats⟩,ty,pos,af,gd⟩ :: l) (a :: tb) i al ((g,ml,mu) :: rest) ls ps R:=
 Wd.callK hg hd h1 h2 hf hx hw fun g' ml' r h1 h2 _=>k g' ml' r h1 h2
theorem Wd.callV {f:Operand} {xs:Array Operand} {ats:Array TypeId} {g:G} {ml:ML} {mu:Option Nat} {rest:List Sg} {pin pout:List Pd2} {fv:V} {args:List V} {v:V} (hg:Gd ops al gd) (hd:Nat.blt d N=true) (h1:pinF a.anc ps=pin) (h2:restA a.anc ps=pout)
  (hf:vA al f=some fv) (hx:vAs al xs.toList=some args) (hw:Fv P nat fv args g v)
  (k:Wd P nat K N B ops l tb (i+1) ((d,v) :: al) ((g,mlA pin ml,none) :: (g,ml,mu) :: rest) ls pout R):
  Wd P nat K N B ops (⟨some d,.call ⟨.value f,xs,ats⟩,ty,pos,af,gd⟩ :: l) (a :: tb) i al ((g,ml,mu) :: rest) ls ps R:=
 Wd.call hg hd h1 h2 hf hx hw.fw fun g' ml' r _ ⟨e1,e2,e3⟩=>by subst e1;subst e2;subst e3;exact k
theorem Wd.split {t:Nat} {x:Bool} (hx:lk al t=some (.b x)) (kt:x=true→Wd P nat K N B ops l tb i al sg ls ps R) (kf:x=false→Wd P nat K N B ops l tb i al sg ls ps R):Wd P nat K N B ops l tb i al sg ls ps R:=by
 cases x with
 | true=>exact kt rfl
 | false=>exact kf rfl
theorem Wc.draw {id:Nat} {opsA:Array Oper} {g:G} {ml:ML} {ds:List D} {Q:AQ} (hl:opsA.toList=l) (hok:orderOK opsA.toList (befores opsA)=true) (ht:tabF opsA.toList (befores opsA) opsA.toList 0=tb)
  (h:∀ K,Wd P nat K N B l l tb 0 al [(g,ml,none)] [] [] fun al g ml=>Q .normal al g ml ds):Wc P nat ro N B (.region id opsA true) al g ml ds Q:=fun tm m hk s=>by
 subst hl ht
 have s1:St B g ml ⟨m.t,m.n+flN opsA.toList,m.fl⟩:=⟨fun b hb=>s.wf b (by have:m.n+flN opsA.toList≤b:=hb;omega),s.fl,s.fln,by have:=s.le;show B.n≤m.n+flN opsA.toList;omega,s.old,s.sub,s.vis,fun r hr=>by have:=s.own r hr;cases r <;> exact this,s.nd,fun b hb=>by
  obtain ⟨f1,f2,f3,f4⟩:=s.fresh b hb
  exact ⟨f1,f2,by show b < m.n+flN opsA.toList;omega,f4⟩⟩
 have rs:Rs B (m.n+flN opsA.toList) m.n opsA.toList 0 [(g,ml,none)] [] [] ⟨[(⟨m.t,m.n+flN opsA.toList,m.fl⟩,none)],[],[]⟩:=by
  refine ⟨rfl,rfl,.one ⟨s1,rfl⟩,fun h2 m2 r2 e=>?_,fun p hp=>(by cases hp),List.Pairwise.nil,rfl,by have:=s.fln;have:=s.le;omega,fun h2 m2 r2 e=>by cases e;exact Nat.le_refl _⟩
  cases e
  refine ⟨fun k o h1 h2=>⟨s.wf _ (by omega),?_,by have:=s.le;omega⟩,fun p hp=>by cases hp⟩
  have hk:k < opsA.toList.length:=(List.getElem?_eq_some_iff.1 h1).1
  have hfl:flN opsA.toList=opsA.toList.length:=by
    unfold flN
    have:opsA.toList.any (fun o=>flB o.op)=true:=List.any_eq_true.2 ⟨o,List.mem_of_getElem? h1,h2⟩
    rw [this, ←Qao]
  show m.n+(0+k) < m.n+flN opsA.toList
  omega
 obtain ⟨n,tm',S',r,hh,mm,rest,e,al',g',ml',k1,k2,q⟩:=h _ m.n tm _ hk rs
 refine ⟨.normal,tm',ds,mergeL S'.ps hh,⟨n+1,?_⟩,al',g',ml',k1,k2,q⟩
 show runDraw P (ev P nat n) N opsA tm ds m=_
 unfold runDraw drawO
 rw [if_pos hok]
 simp only []
 rw [rows_eq,r]
 obtain ⟨hs,ls,ps⟩:=S'
 simp only at e
 subst e
 rfl
end
end Go.Ev
namespace Go.Ev
open Go
set_option linter.unusedVariables false
set_option linter.unusedSimpArgs false
section
variable {P:Program} {nat:Nats} {ro:Option Nat} {K N:Nat} {B:Base} {al:AL} {g g0:G} {ml:ML} {ops l:List Oper} {R:OQ} {Q:AQ} {ds:List D}
theorem Wo.split {t:Nat} {x:Bool} (hx:lk al t=some (.b x)) (kt:x=true→Wo P nat N B ops l al g ml R) (kf:x=false→Wo P nat N B ops l al g ml R):Wo P nat N B ops l al g ml R:=by
 cases x with
 | true=>exact kt rfl
 | false=>exact kf rfl
theorem Wc.freeze {c:Code} {b:Nat} {x:Blk} {ml':ML} (hm:Tk (.blk b x) ml ml') (k:∀ g',Le g g'→g' b=some x→Wc P nat ro N B c al g' ml' ds Q):Wc P nat ro N B c al g ml ds Q:=fun tm m hk s=>by
 have s1:=s.perm hm.perm
 exact k (g.add b x) (Le.add s1.gnone) (if_pos rfl) tm m hk s1.freeze
theorem Qbm {rs:List ResultVar} {Post:G→ML→V→Prop} {vs:List V} {v:V} (hle:Le g0 g) (hr:Rl P al g ml rs vs) (hv:resV (some vs)=some v) (hp:Post g ml v):RetQ P rs g0 Post .ret al g ml []:=⟨rfl,hle,vs,v,hr,hv,hp⟩
theorem Qbp {α:Type} {A:α→AL} {M:α→ML} {J:α→G→Prop} {μ:α→Nat} {x:α} (x':α) (h1:SubL al (A x')) (h2:(M x').Sublist ml) (h3:Le g0 g) (h4:J x' g) (h5:μ x' < μ x):loopQ A M J μ g0 ds x Q .normal al g ml ds:=⟨rfl,x',h1,h2,h3,h4,h5⟩
theorem Wc.loopx {α:Type} (fx:AL) (mx:ML) (A:AL→α→AL) (M:ML→α→ML) (J:α→G→Prop) (μ:α→Nat) {c:Code} (x:α) (ha:SubL al (A fx x)) (hm:(M mx x).Sublist ml) (hj:J x g)
 (round:∀ x g',Le g g'→J x g'→Wc P nat ro N B c (A fx x) g' (M mx x) ds (loopQ (A fx) (M mx) J μ g' ds x Q)):Wc P nat ro N B (.loop c) al g ml ds Q:=Wc.loop (A fx) (M mx) J μ x ha hm hj round
theorem dc {α:Type} {l:List α} {k:Nat} {y:α} (h:l[k]? =some y):l.drop k=y :: l.drop (k+1):=by
 obtain ⟨h1,rfl⟩:=List.getElem?_eq_some_iff.1 h
 exact List.drop_eq_getElem_cons h1
theorem sq_n {y:Code} (h:Wc P nat ro N B y al g ml ds Q):seqQ P nat ro N B y Q .normal al g ml ds:=h
theorem sq_r {y:Code} (h:Q .ret al g ml ds):seqQ P nat ro N B y Q .ret al g ml ds:=h
theorem sq_e {y:Code} {i:Nat} (h:Q (.exit i) al g ml ds):seqQ P nat ro N B y Q (.exit i) al g ml ds:=h
theorem bq_n {i:Nat} (h:Q .normal al g ml ds):blockQ i Q .normal al g ml ds:=h
theorem bq_r {i:Nat} (h:Q .ret al g ml ds):blockQ i Q .ret al g ml ds:=h
theorem bq_x {i j:Nat} (hj:Nat.beq j i=true) (h:Q .normal al g ml ds):blockQ i Q (.exit j) al g ml ds:=by show Q (Bool.rec (motive:=fun _=>Ex) (.exit j) .normal (Nat.beq j i)) al g ml ds;rw [hj];exact h
theorem lq_r {α:Type} {A:α→AL} {M:α→ML} {J:α→G→Prop} {μ:α→Nat} {x:α} (h:Q .ret al g ml ds):loopQ A M J μ g0 ds x Q .ret al g ml ds:=h
theorem lq_e {α:Type} {A:α→AL} {M:α→ML} {J:α→G→Prop} {μ:α→Nat} {x:α} {i:Nat} (h:Q (.exit i) al g ml ds):loopQ A M J μ g0 ds x Q (.exit i) al g ml ds:=h
def RS {α:Type} (R:G→List V→α→Prop) (s:Nat) (g:G) (v:V) (l:List α):Prop:=
 l.length≤9223372036854775807∧((v= .sn∧l=[])∨((v= .e0∨v= .ez)∧l=[])∨∃ b o,SlS s v b o l.length∧∀ j x,l[j]? =some x→∃ cs,cs.length=s∧Pt g b (o+j * s) cs∧R g cs x)
theorem RS.mono {α:Type} {R:G→List V→α→Prop} (hR:∀ g g' cs x,Le g g'→R g cs x→R g' cs x) {s:Nat} {g g':G} {v:V} {l:List α} (h:RS R s g v l) (hl:Le g g'):RS R s g' v l:=by
 obtain ⟨h0,h⟩:=h
 refine ⟨h0,?_⟩
 rcases h with h | h | ⟨b,o,h1,h2⟩
 ·exact .inl h
 ·exact .inr (.inl h)
 ·exact .inr (.inr ⟨b,o,h1,fun j x hx=>by obtain ⟨cs,a1,a2,a3⟩:=h2 j x hx;exact ⟨cs,a1,a2.mono hl,hR _ _ _ _ hl a3⟩⟩)
theorem RS.one {α:Type} {R:G→List V→α→Prop} {s:Nat} {g:G} {v:V} {l:List α} (h:RS R s g v l):oneV v=true:=by
 rcases h.2 with h | h | ⟨b,o,h1,h2⟩
 ·rw [h.1];rfl
 ·rcases h.1 with e | e <;> rw [e] <;> rfl
 ·exact h1.sl1.one
theorem RS.any {α:Type} {R:G→List V→α→Prop} {s:Nat} {g:G} {v:V} {l:List α} (h:RS R s g v l):v.any? =false:=by
 rcases h.2 with h | h | ⟨b,o,h1,h2⟩
 ·rw [h.1];rfl
 ·rcases h.1 with e | e <;> rw [e] <;> rfl
 ·cases h1 <;> rfl
theorem RS.cells {α:Type} {R:G→List V→α→Prop} {s:Nat} {g:G} {v:V} {l:List α} (h:RS R s g v l):v.cells=[v]:=by
 rcases h.2 with h | h | ⟨b,o,h1,h2⟩
 ·rw [h.1];rfl
 ·rcases h.1 with e | e <;> rw [e] <;> rfl
 ·cases h1 <;> rfl
theorem RS.ix {α:Type} {S:G→List V→α→Prop} {s:Nat} {v:V} {m:List α} (h:RS S s g v m) {j:Nat} (hj:j < m.length):∃ b o x cs,Sl v b o m.length∧m[j]? =some x∧cs.length=s∧Pt g b (o+j * s) cs∧S g cs x:=by
 rcases h.2 with ⟨_,rfl⟩ | ⟨_,rfl⟩ | ⟨b,o,h1,h2⟩
 ·cases hj
 ·cases hj
 ·obtain ⟨cs,a1,a2,a3⟩:=h2 j _ (List.getElem?_eq_getElem hj)
  exact ⟨b,o,_,cs,h1.sl1,List.getElem?_eq_getElem hj,a1,a2,a3⟩
end
section
variable {P:Program} {nat:Nats} {K N:Nat} {B:Base} {al:AL} {ops l:List Oper} {a:Ri} {tb:List Ri} {i0:Nat} {sg:List Sg} {ls:List (Nat × Nat)} {ps:List Pd2} {R:OQ} {d ty:Nat} {pos:String} {af:Array Edge} {gd:Option (Nat × Bool)}
end
abbrev r0 (m r:Nat):Ri:=⟨m,r,false,false⟩
abbrev r1 (m r:Nat):Ri:=⟨m,r,true,false⟩
abbrev r2 (m r:Nat):Ri:=⟨m,r,false,true⟩
section
variable {P:Program} {nat:Nats} {K N:Nat} {B:Base} {al:AL} {g:G} {ml:ML} {ops l:List Oper} {R:OQ} {d ty:Nat} {pos:String} {af:Array Edge} {v:V} {x:Operand}
theorem Wo.m (hd:Nat.blt d N=true) (hx:vA al x=some v) (k:Wo P nat N B ops l ((d,v) :: al) g ml R):Wo P nat N B ops (⟨some d,.move x,ty,pos,af,none⟩ :: l) al g ml R:=.p .no hd (.move hx) k
theorem Wo.z (hd:Nat.blt d N=true) (hx:vA al x=some v) (k:Wo P nat N B ops l ((d,v) :: al) g ml R):Wo P nat N B ops (⟨some d,.assign x,ty,pos,af,none⟩ :: l) al g ml R:=.p .no hd (.assign hx) k
theorem Wo.b {op:BinOp} {t u:TypeId} {x y:Operand} {k:IntKind} {a b:Int} (hd:Nat.blt d N=true) (hx:vA al x=some (.i k a)) (hy:vA al y=some (.i k b)) (hv:iop op k a b=some v) (kk:Wo P nat N B ops l ((d,v) :: al) g ml R):Wo P nat N B ops (⟨some d,.binOp op t x y u,ty,pos,af,none⟩ :: l) al g ml R:=.p .no hd (.bin hx hy hv) kk
variable {o:Op} {j t:Nat} {want yb:Bool}
theorem Wo.k (h3:yb= !want) (k:Wo P nat N B ops l ((d,.tup []) :: al) g ml R) (h1:dAt ops j=some t:=by exact rfl) (h2:lk al t=some (.b yb):=by exact rfl) (hd:Nat.blt d N=true:=by exact rfl):Wo P nat N B ops (⟨some d,o,ty,pos,af,some (j,want)⟩ :: l) al g ml R:=.skip (.yes h1 h2 h3) hd k
theorem Wo.ku (k:Wo P nat N B ops l ((d,.tup []) :: al) g ml R) (h1:dAt ops j=some t:=by exact rfl) (h2:lk al t=some (.tup []):=by exact rfl) (hd:Nat.blt d N=true:=by exact rfl):Wo P nat N B ops (⟨some d,o,ty,pos,af,some (j,want)⟩ :: l) al g ml R:=.skip (.un h1 h2) hd k
theorem Wo.q (hp:OpP P al o v) (k:Wo P nat N B ops l ((d,v) :: al) g ml R) (hd:Nat.blt d N=true:=by exact rfl):Wo P nat N B ops (⟨some d,o,ty,pos,af,none⟩ :: l) al g ml R:=.p .no hd hp k
theorem Wo.py (h3:yb=want) (hp:OpP P al o v) (k:Wo P nat N B ops l ((d,v) :: al) g ml R) (h1:dAt ops j=some t:=by exact rfl) (h2:lk al t=some (.b yb):=by exact rfl) (hd:Nat.blt d N=true:=by exact rfl):Wo P nat N B ops (⟨some d,o,ty,pos,af,some (j,want)⟩ :: l) al g ml R:=.p (.yes h1 h2 h3) hd hp k
theorem Wo.w {T:TypeId} {b:Nat} (hp:OpL P al g ml T x b v) (k:Wo P nat N B ops l ((d,v) :: al) g ml R) (hd:Nat.blt d N=true:=by exact rfl):Wo P nat N B ops (⟨some d,.load T x,ty,pos,af,none⟩ :: l) al g ml R:=.ld .no hd hp k
end
section
variable {P:Program} {nat:Nats} {K N:Nat} {B:Base} {al:AL} {ops l:List Oper} {a:Ri} {tb:List Ri} {i0:Nat} {sg:List Sg} {ls:List (Nat × Nat)} {ps:List Pd2} {R:OQ} {d ty:Nat} {pos:String} {af:Array Edge} {v:V} {x:Operand}
variable {o:Op} {j t:Nat} {want yb:Bool}
theorem Wd.k (h3:yb= !want) (k:Wd P nat K N B ops l tb (i0+1) ((d,.tup []) :: al) sg ls ps R) (he:effB o=false:=by exact rfl) (h1:dAt ops j=some t:=by exact rfl) (h2:lk al t=some (.b yb):=by exact rfl) (hd:Nat.blt d N=true:=by exact rfl):Wd P nat K N B ops (⟨some d,o,ty,pos,af,some (j,want)⟩ :: l) (a :: tb) i0 al sg ls ps R:=.skip (.yes h1 h2 h3) hd he k
theorem Wd.ku (k:Wd P nat K N B ops l tb (i0+1) ((d,.tup []) :: al) sg ls ps R) (he:effB o=false:=by exact rfl) (h1:dAt ops j=some t:=by exact rfl) (h2:lk al t=some (.tup []):=by exact rfl) (hd:Nat.blt d N=true:=by exact rfl):Wd P nat K N B ops (⟨some d,o,ty,pos,af,some (j,want)⟩ :: l) (a :: tb) i0 al sg ls ps R:=.skip (.un h1 h2) hd he k
theorem Wd.q (hp:OpP P al o v) (k:Wd P nat K N B ops l tb (i0+1) ((d,v) :: al) sg ls ps R) (he:effB o=false:=by exact rfl) (hr:rdB o=false:=by exact rfl) (hf:flB o=false:=by exact rfl) (hd:Nat.blt d N=true:=by exact rfl):Wd P nat K N B ops (⟨some d,o,ty,pos,af,none⟩ :: l) (a :: tb) i0 al sg ls ps R:=.p .no hd hp he hr hf k
theorem Wd.py (h3:yb=want) (hp:OpP P al o v) (k:Wd P nat K N B ops l tb (i0+1) ((d,v) :: al) sg ls ps R) (he:effB o=false:=by exact rfl) (hr:rdB o=false:=by exact rfl) (hf:flB o=false:=by exact rfl) (h1:dAt ops j=some t:=by exact rfl) (h2:lk al t=some (.b yb):=by exact rfl) (hd:Nat.blt d N=true:=by exact rfl):Wd P nat K N B ops (⟨some d,o,ty,pos,af,some (j,want)⟩ :: l) (a :: tb) i0 al sg ls ps R:=.p (.yes h1 h2 h3) hd hp he hr hf k
theorem Wd.m (hd:Nat.blt d N=true) (hx:vA al x=some v) (k:Wd P nat K N B ops l tb (i0+1) ((d,v) :: al) sg ls ps R):Wd P nat K N B ops (⟨some d,.move x,ty,pos,af,none⟩ :: l) (a :: tb) i0 al sg ls ps R:=.p .no hd (.move hx) rfl rfl rfl k
theorem Wd.z (hd:Nat.blt d N=true) (hx:vA al x=some v) (k:Wd P nat K N B ops l tb (i0+1) ((d,v) :: al) sg ls ps R):Wd P nat K N B ops (⟨some d,.assign x,ty,pos,af,none⟩ :: l) (a :: tb) i0 al sg ls ps R:=.p .no hd (.assign hx) rfl rfl rfl k
theorem Wd.b {op:BinOp} {t u:TypeId} {x y:Operand} {k:IntKind} {c b:Int} (hd:Nat.blt d N=true) (hx:vA al x=some (.i k c)) (hy:vA al y=some (.i k b)) (hv:iop op k c b=some v) (kk:Wd P nat K N B ops l tb (i0+1) ((d,v) :: al) sg ls ps R):Wd P nat K N B ops (⟨some d,.binOp op t x y u,ty,pos,af,none⟩ :: l) (a :: tb) i0 al sg ls ps R:=.p .no hd (.bin hx hy hv) rfl rfl rfl kk
theorem Wd.y {t:TypeId} {x:Operand} {b:Nat} {v:V} {g:G} {ml:ML} {mu:Option Nat} (hd:Nat.blt d N=true) (hk0:sg.length - 1 - a.st=0) (hq:lget sg 0=some (g,ml,mu)) (hp:OpL P al g ml t x b v)
 (kk:Wd P nat K N B ops l tb (i0+1) ((d,v) :: al) sg ((i0,b) :: ls) ps R):Wd P nat K N B ops (⟨some d,.load t x,ty,pos,af,none⟩ :: l) (a :: tb) i0 al sg ls ps R:=.ld (k:=0) .no hd hk0 hq trivial hp kk
end
end Go.Ev
namespace Go.Ev
open Go
set_option linter.unusedVariables false
set_option linter.unusedSimpArgs false
structure Av (v:V):Prop where
 any:v.any? =false
 cells:v.cells=[v]
 one:oneV v=true
theorem Av.nil:Av .sn:=⟨rfl,rfl,rfl⟩
theorem RS.em {α:Type} {R:G→List V→α→Prop} {s:Nat} {g:G} {v:V} (h:Em v):RS R s g v []:=by
 refine ⟨by simp,?_⟩
 rcases h with rfl | rfl | ⟨b,o,rfl⟩
 ·exact .inl ⟨rfl,rfl⟩
 ·exact .inr (.inl ⟨.inr rfl,rfl⟩)
 ·exact .inr (.inr ⟨b,o,.sl (Nat.le_refl _),fun j x hx=>by simp at hx⟩)
theorem Em.av {v:V} (h:Em v):Av v:=by
 rcases h with rfl | rfl | ⟨_,_,rfl⟩ <;> exact ⟨rfl,rfl,rfl⟩
theorem Av.of {h:H} {v:V} {s t:Nat} {cs:List V} (k:Res.ok h (.acc v s cs t)):Av v:=by
 rcases k with ⟨he,_⟩ | ⟨b,n,rfl | ⟨_,_,rfl⟩,_,_⟩
 ·exact he.av
 ·exact ⟨rfl,rfl,rfl⟩
 ·exact ⟨rfl,rfl,rfl⟩
theorem Sl.ac {v:V} {b n s:Nat} (hv:v= .su b 0 n s∨∃ k,n=k+1∧v= .sl b 0 n n):Sl v b 0 n:=by
 rcases hv with rfl | ⟨_,_,rfl⟩
 ·exact .su
 ·exact .sl
theorem SlS.ac {v:V} {b n s:Nat} (hv:v= .su b 0 n s∨∃ k,n=k+1∧v= .sl b 0 n n):SlS s v b 0 n:=by
 rcases hv with rfl | ⟨_,_,rfl⟩
 ·exact .su
 ·exact .sl (Nat.le_refl _)
theorem Tk.mem {r:Res} {l l':ML} (h:Tk r l l'):r∈l:=h.perm.mem_iff.2 List.mem_cons_self
section
variable {P:Program} {nat:Nats} {ro:Option Nat} {K N:Nat} {B:Base} {al:AL} {g g0:G} {ml:ML} {ops l:List Oper} {R:OQ} {Q:AQ} {ds:List D}
theorem St.acc0 {h:H} {s t:Nat} (k:St B g ml h):St B g (.acc .sn s [] t :: ml) h:=by
 have e:fps (.acc .sn s [] t :: ml)=fps ml:=by rw [Qax];rfl
 refine {k with own:=fun r hr=>?_,nd:=by rw [e];exact k.nd,fresh:=fun b hb=>k.fresh b (by rw [e] at hb;exact hb)}
 rcases List.mem_cons.1 hr with rfl | hr
 ·exact .inl ⟨.inl rfl,rfl⟩
 ·exact k.own r hr
theorem Wc.acc {c:Code} (s t:Nat) (k:Wc P nat ro N B c al g (.acc .sn s [] t :: ml) ds Q):Wc P nat ro N B c al g ml ds Q:=fun tm m hk st=>k tm m hk st.acc0
theorem Wc.av {c:Code} {v:V} {s t:Nat} {cs:List V} {ml':ML} (hm:Tk (.acc v s cs t) ml ml') (k:Av v→Wc P nat ro N B c al g ml ds Q):Wc P nat ro N B c al g ml ds Q:=fun tm m hk st=>k (Av.of (st.own _ hm.mem)) tm m hk st
theorem Wo.av {v:V} {s t:Nat} {cs:List V} {ml':ML} (hm:Tk (.acc v s cs t) ml ml') (k:Av v→Wo P nat N B ops l al g ml R):Wo P nat N B ops l al g ml R:=fun tm m hk st=>k (Av.of (st.own _ hm.mem)) tm m hk st
theorem Wd.av {v:V} {s t i:Nat} {cs:List V} {ml':ML} {tb:List Ri} {mu:Option Nat} {rest:List Sg} {ls:List (Nat × Nat)} {ps:List Pd2} (hm:Tk (.acc v s cs t) ml ml') (k:Av v→Wd P nat K N B ops l tb i al ((g,ml,mu) :: rest) ls ps R):Wd P nat K N B ops l tb i al ((g,ml,mu) :: rest) ls ps R:=fun n0 tm S hk r=>by
 obtain ⟨p,l2,e,st,_⟩:=r.hs.head
 exact k (Av.of (st.own _ hm.mem)) n0 tm S hk r
theorem FrS.cons {b k:Nat} {ml:ML} {mo:Option Nat} {r:List Sg} (h:∀ c,mo=some c→c≠b) (hk:FrS B b k r):FrS B b (k+1) ((g,ml,mo) :: r):=by
 cases mo with
 | none=>exact hk
 | some c=>exact ⟨fun _ _=>h c rfl,hk⟩
theorem St.ne {h:H} {v:V} {s t b:Nat} {cs:List V} {x:Blk} {ml1 ml2:ML} (k:St B g ml h) (h1:Tk (.acc v s cs t) ml ml1) (h2:Tk (.blk b x) ml1 ml2):∀ c,blkV v=some c→c≠b:=by
 have k1:=(k.perm h1.perm).perm ((h2.perm).cons _)
 intro c hc e
 subst e
 rcases k1.own _ List.mem_cons_self with ⟨he,_⟩ | ⟨b',n,rfl | ⟨kk,rfl,rfl⟩,_,_⟩
 ·rcases he with rfl | rfl | ⟨b0,o0,rfl⟩
  ·cases hc
  ·cases hc
  ·cases hc
 ·cases hc
  have nd:=k1.nd
  rw [Qax,Qax] at nd
  have nd:(c :: c :: fps ml2).Nodup:=nd
  exact (List.nodup_cons.1 nd).1 List.mem_cons_self
 ·cases hc
  have nd:=k1.nd
  rw [Qax,Qax] at nd
  have nd:(c :: c :: fps ml2).Nodup:=nd
  exact (List.nodup_cons.1 nd).1 List.mem_cons_self
theorem Wd.ne {v:V} {s t i b:Nat} {cs:List V} {x:Blk} {ml1 ml2:ML} {tb:List Ri} {mu:Option Nat} {rest:List Sg} {ls:List (Nat × Nat)} {ps:List Pd2} (h1:Tk (.acc v s cs t) ml ml1) (h2:Tk (.blk b x) ml1 ml2) (k:(∀ c,blkV v=some c→c≠b)→Wd P nat K N B ops l tb i al ((g,ml,mu) :: rest) ls ps R):Wd P nat K N B ops l tb i al ((g,ml,mu) :: rest) ls ps R:=fun n0 tm S hk r=>by
 obtain ⟨p,l2,e,st,_⟩:=r.hs.head
 exact k (st.ne h1 h2) n0 tm S hk r
theorem FrL.n {anc c:Nat}:FrL B g ml anc c []:=trivial
inductive Ra (v:V) (s:Nat) (cs cs':List V) (e:Nat):ML→(V→ML)→Prop
 | hd {l:ML}:Ra v s cs cs' e (.acc v s cs e :: l) fun v'=>.acc v' s cs' e :: l
 | tl {x:Res} {l:ML} {f:V→ML}:Ra v s cs cs' e l f→Ra v s cs cs' e (x :: l) fun v'=>x :: f v'
theorem Ra.rp {v v':V} {s e:Nat} {cs cs':List V} {l:ML} {f:V→ML} (h:Ra v s cs cs' e l f):Rp (.acc v s cs e) (.acc v' s cs' e) l (f v'):=by
 induction h with
 | hd=>exact .hd
 | tl _ ih=>exact .tl ih
theorem OpX.appA {t xT:TypeId} {x y:Operand} {xs:Array Operand} {ts:Array TypeId} {v:V} {s e bt m:Nat} {zs cs new:List V} {mlf:V→ML} (hxs:xs= #[x,y]) (hts:ts= #[t,xT]) (hx:vA al x=some v) (hr:Ra v s cs (cs ++ new) e ml mlf) (ht:slO P t=some e) (he:elO P e=some (s,bt,zs)) (hsrc:Sc P al g ml s xT y m new) (hm:0 < m) (hnew:new.length=m * s) (hlen:cs.length+new.length≤1000000 * s)
 (hone:Qcd new=true):OpX P B al g ml (.call ⟨.builtin .append,xs,ts⟩) mlf:=OpX.app (ty:=0) hxs hts hx ht he hsrc hm hnew hlen hone fun v'=>hr.rp
theorem Fw.forget {f:V} {args:List V} {Post Post':G→ML→V→Prop} (h:Fw P nat f args g ml Post) (hp:∀ g' ml' r,Le g g'→Post g' ml' r→∃ ml'',ml''.Sublist ml'∧Post' g' ml'' r):Fw P nat f args g ml Post':=fun m st=>by
 obtain ⟨r,h',g',ml',a,b,c,d⟩:=h m st
 obtain ⟨ml'',e,k⟩:=hp g' ml' r c d
 exact ⟨r,h',g',ml'',a,b.weak e,c,k⟩
end
def IntR (g:G) (cs:List V) (n:Int):Prop:=cs=[.i .i64 n]
theorem IntR.mono:∀ g g' cs x,Le g g'→IntR g cs x→IntR g' cs x:=fun _ _ _ _ _ h=>h
end Go.Ev
namespace Go.Ev
open Go
set_option linter.unusedVariables false
set_option linter.unusedSimpArgs false
section
variable {P:Program} {nat:Nats} {ro:Option Nat} {N:Nat} {B:Base} {al:AL} {g g0:G} {ml ml':ML} {ops l:List Oper} {R:OQ} {d ty:Nat} {pos:String} {af:Array Edge} {gd:Option (Nat × Bool)}
def Fl (v:V) (b n s:Nat):Prop:=v= .sl b 0 n n∨v= .su b 0 n s
theorem Fl.sl {v:V} {b n s:Nat} (h:Fl v b n s):Sl v b 0 n:=by
 rcases h with rfl | rfl
 ·exact .sl
 ·exact .su
theorem Fl.av {v:V} {b n s:Nat} (h:Fl v b n s):Av v:=by
 rcases h with rfl | rfl <;> exact ⟨rfl,rfl,rfl⟩
end
end Go.Ev
namespace Go.Ev
open Go
set_option linter.unusedVariables false
set_option linter.unusedSimpArgs false
section
variable {R:Type} {r:R}
theorem cT {c:Bool} {A B:Option R} (h:c=true) (hF:cond c A B=some r):A=some r:=by rw [h] at hF;exact hF
theorem cF {c:Bool} {A B:Option R} (h:c=false) (hF:cond c A B=some r):B=some r:=by rw [h] at hF;exact hF
theorem bS {α:Type} {o:Option α} {K:α→Option R} (h:o.bind K=some r):∃ y,o=some y∧K y=some r:=by
 cases o with
 | none=>cases h
 | some y=>exact ⟨y,rfl,h⟩
def ck (c:Bool) (A:Option R):Option R:=cond c A none
theorem ckS {c:Bool} {A:Option R} (h:ck c A=some r):c=true∧A=some r:=by
 cases c with
 | true=>exact ⟨rfl,h⟩
 | false=>cases h
theorem sI {a b:R} (h:some a=some b):a=b:=Option.some.inj h
end
abbrev wr (n:Int):Int:=IntKind.i64.wrap n
abbrev wu8 (n:Int):Int:=IntKind.u8.wrap n
section
variable {α:Type}
theorem same {o:Option α} {a b:α} (h:o=some a) (k:o=some b):a=b:=Option.some.inj (h.symm.trans k)
inductive Ls (R:G→List V→α→Prop) (s:Nat) (g:G):List V→List α→Prop
 | nil:Ls R s g [] []
 | cons {c cs:List V} {x:α} {xs:List α}:c.length=s→R g c x→Ls R s g cs xs→Ls R s g (c ++ cs) (x :: xs)
variable {R:G→List V→α→Prop} {s:Nat} {g g':G} {cs ds:List V} {xs ys:List α} {v:V}
theorem Ls.mono (hR:∀ g g' cs x,Le g g'→R g cs x→R g' cs x) (h:Ls R s g cs xs) (hl:Le g g'):Ls R s g' cs xs:=by
 induction h with
 | nil=>exact .nil
 | cons a b _ ih=>exact .cons a (hR _ _ _ _ hl b) ih
theorem Ls.app (h:Ls R s g cs xs) (k:Ls R s g ds ys):Ls R s g (cs ++ ds) (xs ++ ys):=by
 induction h with
 | nil=>exact k
 | cons a b _ ih=>rw [List.append_assoc];exact .cons a b ih
theorem Ls.len (h:Ls R s g cs xs):cs.length=xs.length * s:=by
 induction h with
 | nil=>simp
 | cons a b _ ih=>rw [List.length_append,ih,a,List.length_cons,Nat.add_mul,Nat.one_mul,Nat.add_comm]
theorem Ls.at (h:Ls R s g cs xs):∀ {j:Nat} {x:α},xs[j]? =some x→∃ c,c.length=s∧R g c x∧(cs.drop (j * s)).take s=c:=by
 induction h with
 | nil=>intro j x hx;simp at hx
 | @cons c cs y xs a b _ ih=>
   intro j x hx
   cases j with
   | zero=>
     simp only [List.getElem?_cons_zero,Option.some.injEq] at hx
     subst hx
     exact ⟨c,a,b,by rw [Nat.zero_mul,List.drop_zero, ←a,List.take_left'];rfl⟩
   | succ j=>
     simp only [List.getElem?_cons_succ] at hx
     obtain ⟨d,h1,h2,h3⟩:=ih hx
     refine ⟨d,h1,h2,?_⟩
     rw [←h3,Nat.add_mul,Nat.one_mul,Nat.add_comm, ←List.drop_drop]
     have:(c ++ cs).drop s=cs:=by rw [←a,List.drop_left'];rfl
     rw [this]
structure AccR (R:G→List V→α→Prop) (s:Nat) (g:G) (v:V) (cs:List V) (xs:List α):Prop where
 sh:(Em v∧cs=[])∨∃ b n,(v= .su b 0 n s∨∃ k,n=k+1∧v= .sl b 0 n n)∧cs.length=n * s
 ls:Ls R s g cs xs
 le:xs.length≤1000000
theorem AccR.nil:AccR R s g .sn [] []:=⟨.inl ⟨.inl rfl,rfl⟩,.nil,Nat.zero_le _⟩
theorem AccR.em (h:Em v):AccR R s g v [] []:=⟨.inl ⟨h,rfl⟩,.nil,Nat.zero_le _⟩
theorem AccR.mono (h:AccR R s g v cs xs) (hR:∀ g g' cs x,Le g g'→R g cs x→R g' cs x) (hl:Le g g'):AccR R s g' v cs xs:=⟨h.sh,h.ls.mono hR hl,h.le⟩
theorem AccR.av (h:AccR R s g v cs xs):Av v:=by
 rcases h.sh with ⟨he,_⟩ | ⟨b,n,rfl | ⟨_,_,rfl⟩,_⟩
 ·exact he.av
 ·exact ⟨rfl,rfl,rfl⟩
 ·exact ⟨rfl,rfl,rfl⟩
theorem AccR.any (h:AccR R s g v cs xs):v.any? =false:=h.av.any
theorem AccR.cells (h:AccR R s g v cs xs):v.cells=[v]:=h.av.cells
theorem AccR.one (h:AccR R s g v cs xs):oneV v=true:=h.av.one
def AccS (s:Nat) (v:V) (cs:List V):Prop:=(Em v∧cs=[])∨∃ b n,(v= .su b 0 n s∨∃ k,n=k+1∧v= .sl b 0 n n)∧cs.length=n * s
theorem AccS.of {h:H} {v:V} {s t:Nat} {cs:List V} (k:Res.ok h (.acc v s cs t)):AccS s v cs:=by
 rcases k with k | ⟨b,n,h1,h2,_⟩
 ·exact .inl k
 ·exact .inr ⟨b,n,h1,h2⟩
theorem AccR.app {v':V} {new:List V} (h:AccR R s g v cs xs) (hn:Ls R s g new ys) (hl:xs.length+ys.length≤1000000) (hs:AccS s v' (cs ++ new)):AccR R s g v' (cs ++ new) (xs ++ ys):=⟨hs,h.ls.app hn,by rw [List.length_append];exact hl⟩
theorem AccR.room {new:List V} (h:AccR R s g v cs xs) (hn:Ls R s g new ys) (hl:xs.length+ys.length≤1000000):cs.length+new.length≤1000000 * s:=by
 rw [h.ls.len,hn.len, ←Nat.add_mul]
 exact Nat.mul_le_mul_right _ hl
theorem AccR.lit {b n:Nat} (h:Ls R s g cs xs) (hn:xs.length=n) (hl:n≤1000000):AccR R s g (.sl b 0 n n) cs xs:=by
 cases n with
 | zero=>
   have hx:xs=[]:=List.length_eq_zero_iff.1 hn
   subst hx
   have hc:cs=[]:=List.length_eq_zero_iff.1 (by rw [h.len,hn,Nat.zero_mul])
   subst hc
   exact .em (.inr (.inr ⟨b,0,rfl⟩))
 | succ k=>exact ⟨.inr ⟨b,k+1,.inr ⟨k,rfl,rfl⟩,by rw [h.len,hn]⟩,h,by omega⟩
theorem RS.nil:RS R s g .sn []:=⟨by simp,.inl ⟨rfl,rfl⟩⟩
end
section
variable {P:Program} {nat:Nats} {ro:Option Nat} {K N:Nat} {B:Base} {al:AL} {g g0:G} {ml:ML} {ops l:List Oper} {R:OQ} {Q:AQ} {ds:List D}
theorem Wc.as {c:Code} {v:V} {s t:Nat} {cs:List V} {ml':ML} (hm:Tk (.acc v s cs t) ml ml') (k:AccS s v cs→Wc P nat ro N B c al g ml ds Q):Wc P nat ro N B c al g ml ds Q:=fun tm m hk st=>k (AccS.of (st.own _ hm.mem)) tm m hk st
theorem Wo.as {v:V} {s t:Nat} {cs:List V} {ml':ML} (hm:Tk (.acc v s cs t) ml ml') (k:AccS s v cs→Wo P nat N B ops l al g ml R):Wo P nat N B ops l al g ml R:=fun tm m hk st=>k (AccS.of (st.own _ hm.mem)) tm m hk st
theorem Wd.as {v:V} {s t i:Nat} {cs:List V} {ml':ML} {tb:List Ri} {mu:Option Nat} {rest:List Sg} {ls:List (Nat × Nat)} {ps:List Pd2} (hm:Tk (.acc v s cs t) ml ml') (k:AccS s v cs→Wd P nat K N B ops l tb i al ((g,ml,mu) :: rest) ls ps R):Wd P nat K N B ops l tb i al ((g,ml,mu) :: rest) ls ps R:=fun n0 tm S hk r=>by
 obtain ⟨p,l2,e,st,_⟩:=r.hs.head
 exact k (AccS.of (st.own _ hm.mem)) n0 tm S hk r
theorem St.freezeL {α:Type} {Rr:G→List V→α→Prop} {v:V} {s t:Nat} {cs:List V} {xs:List α} {ml':ML} {m:H} (hR:∀ g g' cs x,Le g g'→Rr g cs x→Rr g' cs x) (hm:Tk (.acc v s cs t) ml ml') (hs:0 < s) (hL:AccR Rr s g v cs xs) (st:St B g ml m):∃ g',Le g g'∧RS Rr s g' v xs∧St B g' ml' m:=by
 have s1:=st.perm hm.perm
 have hn:xs.length≤9223372036854775807:=Nat.le_trans hL.le (by decide)
 rcases s1.own _ List.mem_cons_self with ⟨he,e⟩ | ⟨b,n,hv,h1,h2⟩
 ·have hxs:xs=[]:=by
   have:=hL.ls.len
   rw [e,List.length_nil] at this
   rcases Nat.eq_zero_or_pos xs.length with h | h
   ·exact List.length_eq_zero_iff.1 h
   ·have:=Nat.mul_pos h hs;omega
  subst hxs
  exact ⟨g,Le.refl _,RS.em he,s1.weak (.cons _ (List.Sublist.refl _))⟩
 ·have s2:St B g (.blk b (.cells cs t) :: ml') m:=by
   have e:fps (Res.acc v s cs t :: ml')=fps (.blk b (.cells cs t) :: ml'):=by rw [Qax,Qax];rcases hv with rfl | ⟨_,rfl,rfl⟩ <;> rfl
   refine {s1 with own:=fun r hr=>?_,nd:=e ▸ s1.nd,fresh:=e ▸ s1.fresh}
   rcases List.mem_cons.1 hr with rfl | hr
   ·exact h2
   ·exact s1.own r (List.mem_cons_of_mem _ hr)
  have hle:Le g (g.add b (.cells cs t)):=Le.add s2.gnone
  have hb:(g.add b (.cells cs t)) b=some (.cells cs t):=if_pos rfl
  have hl:cs.length=xs.length * s:=hL.ls.len
  have en:n=xs.length:=Nat.eq_of_mul_eq_mul_right hs (h1.symm.trans hl)
  subst en
  refine ⟨_,hle,⟨hn,.inr (.inr ⟨b,0,(SlS.ac hv),fun j x hx=>?_⟩)⟩,s2.freeze⟩
  obtain ⟨c,c1,c2,c3⟩:=hL.ls.at hx
  refine ⟨c,c1,⟨cs,t,hb,?_,?_⟩,hR _ _ _ _ hle c2⟩
  ·have:=(List.getElem?_eq_some_iff.1 hx).1
   have:=Nat.mul_le_mul_right s this
   rw [c1,hl]
   simp only [Nat.succ_mul] at this
   omega
  ·rw [c1,Nat.zero_add];exact c3
theorem Wc.freezeL {α:Type} {Rr:G→List V→α→Prop} {c:Code} {v:V} {s t:Nat} {cs:List V} {xs:List α} {ml':ML} (hR:∀ g g' cs x,Le g g'→Rr g cs x→Rr g' cs x) (hm:Tk (.acc v s cs t) ml ml') (hs:0 < s) (hL:AccR Rr s g v cs xs)
  (k:∀ g',Le g g'→RS Rr s g' v xs→Wc P nat ro N B c al g' ml' ds Q):Wc P nat ro N B c al g ml ds Q:=fun tm m hk st=>by
 obtain ⟨g',h1,h2,h3⟩:=st.freezeL hR hm hs hL
 exact k g' h1 h2 tm m hk h3
theorem Wo.freezeL {α:Type} {Rr:G→List V→α→Prop} {v:V} {s t:Nat} {cs:List V} {xs:List α} {ml':ML} (hR:∀ g g' cs x,Le g g'→Rr g cs x→Rr g' cs x) (hm:Tk (.acc v s cs t) ml ml') (hs:0 < s) (hL:AccR Rr s g v cs xs)
  (k:∀ g',Le g g'→RS Rr s g' v xs→Wo P nat N B ops l al g' ml' R):Wo P nat N B ops l al g ml R:=fun tm m hk st=>by
 obtain ⟨g',h1,h2,h3⟩:=st.freezeL hR hm hs hL
 exact k g' h1 h2 tm m hk h3
theorem OpL.as {t:TypeId} {x:Operand} {b o' j s tt:Nat} {full c:List V} {v:V} (k:Nat) (hx:vA al x=some (.p b o')) (hb:Hb g b (.cells full tt) ml) (ho:o'=j * s+k) (hc:(full.drop (j * s)).take s=c) (hl:c.length=s) (ha:aggO P t=some false) (hv:lget c k=some v):OpL P al g ml t x b v:=by
 subst ho
 refine .s hx hb ha (Pt.get (b:=b) (cs:=c) ?_ hv)
 rw [hl];exact hc
theorem AccR.cellsLe {α:Type} {S:G→List V→α→Prop} {s:Nat} {v:V} {cs:List V} {xs:List α} {j:Nat} {y:α} (h:AccR S s g v cs xs) (hy:xs[j]? =some y):j * s+s≤cs.length:=by
 have:=(List.getElem?_eq_some_iff.1 hy).1
 have:=Nat.mul_le_mul_right s this
 rw [h.ls.len]
 simp only [Nat.succ_mul] at this
 omega
theorem AccR.ix {α:Type} {S:G→List V→α→Prop} {s:Nat} {v:V} {cs:List V} {xs:List α} {j:Nat} {y:α} (h:AccR S s g v cs xs) (hs:0 < s) (hy:xs[j]? =some y):∃ b n c,(v= .su b 0 n s∨∃ k,n=k+1∧v= .sl b 0 n n)∧j < n∧c.length=s∧S g c y∧(cs.drop (j * s)).take s=c:=by
 have hj:=(List.getElem?_eq_some_iff.1 hy).1
 have hl:=h.ls.len
 obtain ⟨c,c1,c2,c3⟩:=h.ls.at hy
 rcases h.sh with ⟨_,rfl⟩ | ⟨b,n,hv,h1⟩
 ·rw [List.length_nil] at hl
  have:=Nat.mul_pos (show 0 < xs.length by omega) hs
  omega
 ·have en:n=xs.length:=Nat.eq_of_mul_eq_mul_right hs (h1.symm.trans hl)
  exact ⟨b,n,c,hv,by omega,c1,c2,c3⟩
theorem Wc.al0 {c:Code} (al:AL) (h:Wc P nat ro N B c al g ml ds Q):Wc P nat ro N B c al g ml ds Q:=h
theorem Fw.drop {f:V} {args:List V} {Post:G→V→Prop} (h:Fw P nat f args g ml fun g' _ r=>Post g' r):Fw P nat f args g ml fun g' ml' r=>ml'=[]∧Post g' r:=
 h.forget fun g' ml' r _ hp=>⟨[],List.nil_sublist _,rfl,hp⟩
theorem OpP.ixsN {t:TypeId} {x i:Operand} {cs:List UInt8} {k:IntKind} {j:Nat} {y:UInt8} (hx:vA al x=some (.s cs)) (hi:vA al i=some (.i k (j:Int))) (ht:strO P t=true) (hy:cs[j]? =some y):OpP P al (.index t x i) (.i .u8 (y.toNat:Int)):=by
 obtain ⟨h1,rfl⟩:=List.getElem?_eq_some_iff.1 hy
 exact .ixs hx hi ht h1
end
theorem IntR.any {g:G} {cs:List V} {n:Int} (h:IntR g cs n):cs=[.i .i64 n]:=h
def BoolR (g:G) (cs:List V) (n:Bool):Prop:=cs=[.b n]
theorem BoolR.mono:∀ g g' cs x,Le g g'→BoolR g cs x→BoolR g' cs x:=fun _ _ _ _ _ h=>h
def StrR (g:G) (cs:List V) (n:List UInt8):Prop:=cs=[.s n]
theorem StrR.mono:∀ g g' cs x,Le g g'→StrR g cs x→StrR g' cs x:=fun _ _ _ _ _ h=>h
section
variable {P:Program} {nat:Nats} {K N:Nat} {B:Base} {al:AL} {ops l:List Oper} {a:Ri} {tb:List Ri} {i:Nat} {ls:List (Nat × Nat)} {ps:List Pd2} {R:OQ} {d ty:Nat} {pos:String} {af:Array Edge} {gd:Option (Nat × Bool)}
theorem hK1 {K b:Nat} {x:Blk} (h:K≤b):∀ c∈(Res.blk b x).fp,K≤c:=fun c hc=>by
 rw [List.mem_singleton.1 (show c∈[b] from hc)];exact h
end
theorem RS.ls {α:Type} {R:G→List V→α→Prop} {s:Nat} {g:G} {w:V} {l:List α} (h:RS R s g w l):∃ cs,Ls R s g cs l∧((l=[]∧cs=[])∨∃ b o full tt,Sl w b o l.length∧g b=some (.cells full tt)∧o+l.length * s≤full.length∧(full.drop o).take (l.length * s)=cs):=by
 have key:∀ (l:List α) (b o:Nat) (full:List V) (tt:Nat),g b=some (.cells full tt)→(∀ j x,l[j]? =some x→∃ cs,cs.length=s∧Pt g b (o+j * s) cs∧R g cs x)→(l=[]∨o+l.length * s≤full.length)∧Ls R s g ((full.drop o).take (l.length * s)) l:=by
  intro l
  induction l with
  | nil=>intro b o full tt hg hx;exact ⟨.inl rfl,by rw [List.length_nil,Nat.zero_mul,List.take_zero];exact .nil⟩
  | cons x l ih=>
    intro b o full tt hg hx
    obtain ⟨c,h1,⟨full',tt',h2,h3,h4⟩,h5⟩:=hx 0 x rfl
    rw [hg] at h2
    cases h2
    rw [Nat.zero_mul,Nat.add_zero] at h3 h4
    obtain ⟨i1,i2⟩:=ih b (o+s) full tt hg fun j y hy=>by
     obtain ⟨c,k1,k2,k3⟩:=hx (j+1) y (by simpa using hy)
     exact ⟨c,k1,by rw [Nat.add_mul,Nat.one_mul] at k2;rw [Nat.add_assoc,Nat.add_comm s];exact k2,k3⟩
    have hle:o+(x :: l).length * s≤full.length:=by
     rw [List.length_cons,Nat.add_mul,Nat.one_mul]
     rcases i1 with rfl | i1
     ·simp;omega
     ·omega
    refine ⟨.inr hle,?_⟩
    have e:(full.drop o).take ((x :: l).length * s)=c ++ (full.drop (o+s)).take (l.length * s):=by
     rw [List.length_cons,Nat.add_mul,Nat.one_mul,Nat.add_comm,List.take_add,List.drop_drop]
     congr 1
     rw [←h4,h1]
    rw [e]
    exact .cons h1 h5 i2
 rcases h.2 with ⟨_,rfl⟩ | ⟨_,rfl⟩ | ⟨b,o,h1,h2⟩
 ·exact ⟨[],.nil,.inl ⟨rfl,rfl⟩⟩
 ·exact ⟨[],.nil,.inl ⟨rfl,rfl⟩⟩
 ·cases l with
  | nil=>exact ⟨[],.nil,.inl ⟨rfl,rfl⟩⟩
  | cons x l=>
    obtain ⟨c,_,⟨full,tt,hg,_,_⟩,_⟩:=h2 0 x rfl
    obtain ⟨k1,k2⟩:=key (x :: l) b o full tt hg h2
    rcases k1 with k1 | k1
    ·cases k1
    ·exact ⟨_,k2,.inr ⟨b,o,full,tt,h1.sl1,hg,k1,rfl⟩⟩
section
variable {P:Program} {nat:Nats} {K N:Nat} {B:Base} {al:AL} {g:G} {ml:ML} {ops l:List Oper} {R:OQ} {d ty:Nat} {pos:String} {af:Array Edge} {gd:Option (Nat × Bool)}
theorem Ra.self {v:V} {s e:Nat} {cs:List V} {l:ML} {f:V→ML} (h:Ra v s cs (cs ++ []) e l f):f v=l:=by
 generalize hcs:cs ++ []=ds at h
 rw [List.append_nil] at hcs
 subst hcs
 induction h with
 | hd=>rfl
 | tl _ ih=>rename_i x l f _;show x :: f v=x :: l;rw [ih]
theorem Sc.rs {α:Type} {S:G→List V→α→Prop} {s xT e:Nat} {y:Operand} {w:V} {m:List α} (hy:vA al y=some w) (he:slO P xT=some e) (h:RS S s g w m):∃ cs,Ls S s g cs m∧Sc P al g ml s xT y m.length cs:=by
 obtain ⟨cs,h1,h2⟩:=h.ls
 refine ⟨cs,h1,?_⟩
 rcases h2 with ⟨rfl,rfl⟩ | ⟨b,o,full,tt,k1,k2,k3,k4⟩
 ·intro tm m hk hs
  rcases h.2 with ⟨rfl,_⟩ | ⟨rfl | rfl,_⟩ | ⟨b,o,q1,q2⟩
  ·simp only [hk.ev hy,srcV,he];rfl
  ·simp only [hk.ev hy,srcV,he];rfl
  ·simp only [hk.ev hy,srcV,he];rfl
  ·cases q1 <;> simp only [hk.ev hy,srcV,he,List.length_nil,if_true]
 ·exact .of hy k1 he (.g k2) (by rw [Qao];exact k3) (by rw [Qbw,Qcc];exact k4)
end
section
variable {P:Program} {nat:Nats} {ro:Option Nat} {K N:Nat} {B:Base} {al:AL} {g g':G} {ml ml':ML} {ops l:List Oper} {tb:List Ri} {i:Nat} {ls:List (Nat × Nat)} {ps:List Pd2} {mu:Option Nat} {rest:List Sg} {R:OQ} {Q:AQ} {ds:List D} {Φ:G→Prop}
theorem Wc.see {c:Code} (f:∀ h,St B g ml h→∃ g',Φ g'∧St B g' ml' h) (k:∀ g',Φ g'→Wc P nat ro N B c al g' ml' ds Q):Wc P nat ro N B c al g ml ds Q:=fun tm h hk st=>by
 obtain ⟨g',h1,h2⟩:=f h st
 exact k g' h1 tm h hk h2
theorem Wo.see (f:∀ h,St B g ml h→∃ g',Φ g'∧St B g' ml' h) (k:∀ g',Φ g'→Wo P nat N B ops l al g' ml' R):Wo P nat N B ops l al g ml R:=fun tm h hk st=>by
 obtain ⟨g',h1,h2⟩:=f h st
 exact k g' h1 tm h hk h2
theorem Wd.see (f:∀ h,St B g ml h→∃ g',Φ g'∧St B g' ml' h) (k:∀ g',Φ g'→Wd P nat K N B ops l tb i al ((g',ml',mu) :: rest) ls ps R):Wd P nat K N B ops l tb i al ((g,ml,mu) :: rest) ls ps R:=fun n0 tm S hk r=>by
 have hs:=r.hs
 cases hs':S.hs with
 | nil=>rw [hs'] at hs;cases hs
 | cons p l2=>
   rw [hs'] at hs
   cases hs with
   | one h=>
     obtain ⟨g',h1,h2⟩:=f _ h.1
     exact k g' h1 n0 tm S hk {r with hs:=by rw [hs'];exact .one ⟨h2,h.2⟩}
   | cons h t=>
     obtain ⟨g',h1,h2⟩:=f _ h.1
     exact k g' h1 n0 tm S hk {r with hs:=by rw [hs'];exact .cons ⟨h2,h.2⟩ t}
theorem seeFreeze {α:Type} {Rr:G→List V→α→Prop} {v:V} {s t:Nat} {cs:List V} {xs:List α} (hR:∀ g g' cs x,Le g g'→Rr g cs x→Rr g' cs x) (hm:Tk (.acc v s cs t) ml ml') (hs:0 < s) (hL:AccR Rr s g v cs xs):∀ h,St B g ml h→∃ g',(Le g g'∧RS Rr s g' v xs)∧St B g' ml' h:=fun h st=>by
 obtain ⟨g',h1,h2,h3⟩:=st.freezeL hR hm hs hL
 exact ⟨g',⟨h1,h2⟩,h3⟩
end
theorem Ls.set {α:Type} {R:G→List V→α→Prop} {s:Nat} {g:G} {cs c':List V} {xs:List α} {y':α} (h:Ls R s g cs xs) (h1:c'.length=s) (h2:R g c' y'):∀ {j:Nat},j < xs.length→Ls R s g (cs.take (j * s) ++ c' ++ cs.drop (j * s+s)) (xs.set j y'):=by
 induction h with
 | nil=>intro j hj;cases hj
 | @cons c cs y xs a b hr ih=>
   intro j hj
   cases j with
   | zero=>
     have e:(c ++ cs).drop s=cs:=by rw [←a,List.drop_left'];rfl
     rw [Nat.zero_mul,Nat.zero_add,List.take_zero,List.nil_append,e,List.set_cons_zero]
     exact .cons h1 h2 hr
   | succ j=>
     have hj2:j < xs.length:=by rw [List.length_cons] at hj;omega
     have e1:(c ++ cs).take ((j+1) * s)=c ++ cs.take (j * s):=by
      rw [Nat.add_mul,Nat.one_mul,Nat.add_comm,List.take_append,List.take_of_length_le (by omega),a]
      congr 2;omega
     have e2:(c ++ cs).drop ((j+1) * s+s)=cs.drop (j * s+s):=by
      rw [show (j+1) * s+s=s+(j * s+s) by rw [Nat.add_mul,Nat.one_mul];omega, ←List.drop_drop]
      congr 1
      rw [←a,List.drop_left'];rfl
     rw [e1,e2,List.set_cons_succ,List.append_assoc,List.append_assoc, ←List.append_assoc (as:=cs.take (j * s))]
     exact .cons a b (ih hj2)
theorem setL_part {cs us:List V} {a k s:Nat} (hk:k+us.length≤s) (ha:a+s≤cs.length):setL cs (a+k) us=cs.take a ++ setL ((cs.drop a).take s) k us ++ cs.drop (a+s):=by
 have hl:((cs.drop a).take s).length=s:=by rw [List.length_take,List.length_drop];omega
 rw [setL_eq cs (a+k) us (by omega),setL_eq _ k us (by omega)]
 have e1:cs.take (a+k)=cs.take a ++ ((cs.drop a).take s).take k:=by
  rw [List.take_add,List.take_take,Nat.min_eq_left (by omega)]
 have e2:((cs.drop a).take s).drop (k+us.length) ++ cs.drop (a+s)=cs.drop (a+k+us.length):=by
  rw [←List.drop_drop (l:=cs) (i:=s), ←List.drop_append_of_le_length (by omega),List.take_append_drop,List.drop_drop]
  congr 1;omega
 rw [e1, ←e2]
 simp only [List.append_assoc]
theorem setL_len {cs us:List V} {o:Nat} (h:o+us.length≤cs.length):(setL cs o us).length=cs.length:=by
 rw [setL_eq cs o us h]
 simp
 omega
theorem AccR.set {α:Type} {R:G→List V→α→Prop} {s:Nat} {g:G} {v:V} {cs c us:List V} {xs:List α} {j k:Nat} {y y':α} (h:AccR R s g v cs xs) (hy:xs[j]? =some y) (hc:(cs.drop (j * s)).take s=c) (hk:k+us.length≤s) (hR:R g (setL c k us) y'):AccR R s g v (setL cs (j * s+k) us) (xs.set j y'):=by
 have hj:=(List.getElem?_eq_some_iff.1 hy).1
 have hle:=h.cellsLe hy
 have hcl:c.length=s:=by rw [←hc,List.length_take,List.length_drop];omega
 have e:setL cs (j * s+k) us=cs.take (j * s) ++ setL c k us ++ cs.drop (j * s+s):=by rw [setL_part hk hle,hc]
 have hl:(setL cs (j * s+k) us).length=cs.length:=setL_len (by omega)
 refine ⟨?_,?_,by rw [List.length_set];exact h.le⟩
 ·rcases h.sh with ⟨he,rfl⟩ | ⟨b,n,hv,h1⟩
  ·exact .inl ⟨he,List.length_eq_zero_iff.1 (by rw [hl];rfl)⟩
  ·exact .inr ⟨b,n,hv,by rw [hl];exact h1⟩
 ·rw [e]
  exact h.ls.set (by rw [setL_len (by omega)];exact hcl) hR hj
section
variable {P:Program} {nat:Nats} {K N:Nat} {B:Base} {al:AL} {g:G} {ml:ML} {ops l:List Oper} {R:OQ} {d ty:Nat} {pos:String} {af:Array Edge} {gd:Option (Nat × Bool)}
def bA (al:AL) (o:Option Operand) (d n:Int):Prop:=match o with
 | none=>n=d
 | some x=>∃ k,vA al x=some (.i k n)
theorem bA.bnd {tm:TT V} {o:Option Operand} {d lim:Nat} {n:Nat} (hk:Kn tm al) (h:bA al o (d:Int) (n:Int)) (hl:n≤lim) (hd:o=none→n=d):Ev.bnd (omp (ev0 tm) o) d lim=some n:=by
 cases o with
 | none=>show some d=some n;rw [hd rfl]
 | some x=>
   obtain ⟨k,hx⟩:=h
   show Ev.bnd (some (ev0 tm x)) d lim=_
   rw [hk.ev hx]
   show (if 0≤(n:Int)∧(n:Int)≤lim then some (n:Int).toNat else none)=_
   rw [if_pos (by omega)];simp
end
section
variable (P:Program)
end
section
variable {P:Program}
end
theorem dT {p:Prop} [Decidable p] (h:decide p=true):p:=of_decide_eq_true h
theorem dF {p:Prop} [Decidable p] (h:decide p=false): ¬ p:=of_decide_eq_false h
theorem nT {x:Bool} (h:(!x)=true):x=false:=by cases x <;> first | rfl | cases h
theorem nF {x:Bool} (h:(!x)=false):x=true:=by cases x <;> first | rfl | cases h
section
variable {P:Program} {nat:Nats} {K N:Nat} {B:Base} {al:AL} {g:G} {ml:ML} {ops l:List Oper} {R:OQ} {d ty:Nat} {pos:String} {af:Array Edge} {v:V} {x:Operand}
end
section
variable {P:Program} {nat:Nats} {K N:Nat} {B:Base} {al:AL} {ops l:List Oper} {a:Ri} {tb:List Ri} {i0:Nat} {sg:List Sg} {ls:List (Nat × Nat)} {ps:List Pd2} {R:OQ} {d ty:Nat} {pos:String} {af:Array Edge} {v:V} {x:Operand}
end
section
variable {P:Program} {nat:Nats} {ro:Option Nat} {K N:Nat} {B:Base} {al:AL} {g:G} {ml ml':ML} {ops l:List Oper} {tb:List Ri} {i:Nat} {ls:List (Nat × Nat)} {ps:List Pd2} {mu:Option Nat} {rest:List Sg} {R:OQ} {Q:AQ} {ds:List D}
theorem AccR.part {α:Type} {S:G→List V→α→Prop} {s:Nat} {v:V} {cs c us:List V} {xs:List α} {j k:Nat} {y:α} (h:AccR S s g v cs xs) (hy:xs[j]? =some y) (hc:(cs.drop (j * s)).take s=c) (hk:k+us.length≤s):((setL cs (j * s+k) us).drop (j * s)).take s=setL c k us:=by
 have hle:=h.cellsLe hy
 have hcl:c.length=s:=by rw [←hc,List.length_take,List.length_drop];omega
 rw [setL_part hk hle,hc,List.append_assoc]
 have e1:(cs.take (j * s)).length=j * s:=by rw [List.length_take];omega
 have e2:(setL c k us).length=s:=by rw [setL_len (by omega)];exact hcl
 rw [List.drop_append_of_le_length (by omega),List.drop_of_length_le (by omega),List.nil_append,List.take_append_of_le_length (by omega),List.take_of_length_le (by omega)]
theorem AccR.ble {α:Type} {S:G→List V→α→Prop} {s:Nat} {v:V} {cs:List V} {xs:List α} {j k n:Nat} {y:α} (h:AccR S s g v cs xs) (hy:xs[j]? =some y) (hk:k+n≤s):Nat.ble (j * s+k+n) (llen cs)=true:=by
 have hle:=h.cellsLe hy
 rw [Qao];exact Nat.ble_eq_true_of_le (by omega)
end
def cutL {α:Type} (l:List α) (a b:Int):List α:=(l.take b.toNat).drop a.toNat
section
variable {P:Program} {nat:Nats} {K N:Nat} {B:Base} {al:AL} {g:G} {ml:ML} {ops l:List Oper} {R:OQ} {d ty:Nat} {pos:String} {af:Array Edge} {gd:Option (Nat × Bool)}
theorem OpP.cutS {t:TypeId} {x:Operand} {lo hi:Option Operand} {cs:List UInt8} {a b:Int} (hx:vA al x=some (.s cs)) (ht:strO P t=true) (hlo:bA al lo 0 a) (hhi:bA al hi (cs.length:Int) b) (hab:0≤a∧a≤b∧b≤(cs.length:Int)):OpP P al (.slice t x lo hi none) (.s (cutL cs a b)):=by
 refine ⟨rfl,fun tm m hk=>?_⟩
 show Ev.pur m (sliceV P t (ev0 tm x) (omp (ev0 tm) lo) (omp (ev0 tm) hi) none)=_
 have hs:P.underlying t=some .string:=by
  unfold strO at ht
  split at ht
  ·assumption
  ·cases ht
 have h1:bA al lo ((0:Nat):Int) ((a.toNat:Nat):Int):=by rw [show ((a.toNat:Nat):Int)=a by omega];exact hlo
 have h2:bA al hi ((cs.length:Nat):Int) ((b.toNat:Nat):Int):=by rw [show ((b.toNat:Nat):Int)=b by omega];exact hhi
 have e1:Ev.bnd none (llen cs) (llen cs)=some (llen cs):=rfl
 have b3:bnd3 (omp (ev0 tm) lo) (omp (ev0 tm) hi) none (llen cs) (llen cs)=some (a.toNat,b.toNat,llen cs):=by
  unfold bnd3
  rw [e1]
  simp only []
  rw [Qao,h2.bnd hk (by omega) (fun e=>by subst e;have:b=(cs.length:Int):=hhi;omega)]
  simp only []
  rw [h1.bnd hk (by omega) (fun e=>by subst e;have:a=0:=hlo;omega)]
 rw [hk.ev hx]
 simp only [sliceV,hs,b3]
 show Ev.pur m (some (.s (ldrop (ltake cs b.toNat) a.toNat)))=_
 rw [Qbw,Qcc];rfl
theorem cut3 {a b n:Int} (h:(decide (0≤a) && (decide (a≤b) && decide (b≤n)))=true):0≤a∧a≤b∧b≤n:=by
 simpa using h
end
theorem IntR.one {g:G} {cs:List V} {n:Int} (h:IntR g cs n):Qcd cs=true:=by rw [h];rfl
theorem BoolR.one {g:G} {cs:List V} {n:Bool} (h:BoolR g cs n):Qcd cs=true:=by rw [h];rfl
theorem StrR.one {g:G} {cs:List V} {n:List UInt8} (h:StrR g cs n):Qcd cs=true:=by rw [h];rfl
def arr {α:Type} (l:List α) (z:α):Nat→α:=fun i=>l.getD i z
end Go.Ev
