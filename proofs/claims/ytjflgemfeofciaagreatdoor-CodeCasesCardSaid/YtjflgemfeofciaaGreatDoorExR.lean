import Derived.Test.YtjflgemfeofciaaGreatDoorMX3
namespace Go.Ev
open Go
set_option linter.unusedVariables false
set_option linter.unusedSimpArgs false
def dml:List D→ML
 | []=>[]
 | .coll b :: ds=>.blk b .dfr :: dml ds
theorem runD_st {B:Base} {g:G}:∀ {ds:List D} {ml:ML} {h:H},St B g (dml ds ++ ml) h→∃ h',runD ds h=some h'∧St B g ml h'
 | [],ml,h,s=>⟨h,rfl,s⟩
 | .coll b :: ds,ml,h,s=>by
   have s1:St B g (.blk b .dfr :: (dml ds ++ ml)) h:=s
   have hb:h.get b=some .dfr:=s1.get .hd
   have hf:h.fl≤b:=s1.blkFl List.mem_cons_self
   have s2:St B g (.blk b .gone :: (dml ds ++ ml)) (h.put b .gone):=s1.put .hd
   obtain ⟨h',r,s3⟩:=runD_st (s2.weak (List.sublist_cons_self _ _))
   refine ⟨h',?_,s3⟩
   show (match collD h b with | some h=>runD ds h | none=>none)=some h'
   unfold collD
   rw [hb]
   simp only [if_pos hf]
   exact r
section
variable (P:Program)
def RetD (rs:List ResultVar) (g0:G) (Post:G→ML→V→Prop):AQ:=fun e al g ml ds=>match e with
 | .exit _=>False
 | _=>Le g0 g∧∃ ml' vs v,(dml ds ++ ml').Sublist ml∧Rl P al g ml' rs vs∧resV (some vs)=some v∧Post g ml' v
end
section
variable {P:Program} {nat:Nats} {N:Nat} {B:Base} {al:AL} {g g' g0:G} {ml ml':ML} {ds:List D} {Q:AQ}
theorem retD_n {rs:List ResultVar} {Post:G→ML→V→Prop} {vs:List V} {v:V} (hle:Le g0 g) (hp:(dml ds ++ ml').Sublist ml) (hr:Rl P al g ml' rs vs) (hv:resV (some vs)=some v) (hq:Post g ml' v):RetD P rs g0 Post .normal al g ml ds:=⟨hle,ml',vs,v,hp,hr,hv,hq⟩
theorem retD_r {rs:List ResultVar} {Post:G→ML→V→Prop} {vs:List V} {v:V} (hle:Le g0 g) (hp:(dml ds ++ ml').Sublist ml) (hr:Rl P al g ml' rs vs) (hv:resV (some vs)=some v) (hq:Post g ml' v):RetD P rs g0 Post .ret al g ml ds:=⟨hle,ml',vs,v,hp,hr,hv,hq⟩
theorem Fw.enterD {K:Nat} {fn:Func} {c:Code} {x y args:List V} {rs:List ResultVar} {Post:G→ML→V→Prop} (hf:P.funcs[K]? =some fn) (hnat:nat K=none) (hnum:numO fn=false) (hb:fn.body=some c) (hrs:fn.results.toList=rs)
   (hal:numA (lapp x (lapp args y)) 0 []=al) (hN:Nat.max (llen (lapp x (lapp args y))) fn.ntmps=N)
   (h:∀ B,Wc P nat none N B c al g ml [] (RetD P rs g Post)):Fw P nat (.f K x y) args g ml Post:=fun m s=>by
 subst hal hN hrs
 obtain ⟨e,tm',ds',h',⟨n,r⟩,al',g',ml',k1,s1,q⟩:=h (Base.at m g ml) (fill (lapp x (lapp args y)) 0 .lf) m (fill_kn (Kn.nil _)) s
 have sh:ev P nat (n+1) (.call (.f K x y) args m)=sBody P fn.results.toList (ev P nat n (.code none (Nat.max (llen (lapp x (lapp args y))) fn.ntmps) c (fill (lapp x (lapp args y)) 0 .lf) [] m)):=by
   show sFn P (ev P nat n) K _ m (nat K)=_
   rw [hnat]
   show sFn1 P (ev P nat n) _ m P.funcs[K]? =_
   rw [hf]
   show Bool.rec (motive:=fun _=>Option Out) (sFn2 P (ev P nat n) fn _ m fn.body) none (numO fn)=_
   rw [hnum,hb]
   rfl
 rw [r] at sh
 cases e with
 | exit i=>exact q.elim
 | normal=>
   obtain ⟨hle,ml2,vs,v,hp,q1,q2,q3⟩:=q
   obtain ⟨h2,r2,s2⟩:=runD_st (s1.weak hp)
   refine ⟨v,h2,g',ml2,⟨n+1,?_⟩,s2,hle,q3⟩
   rw [sh]
   show sRet P fn.results.toList tm' (runD ds' h')=_
   rw [r2]
   show valR h2 (resV (resL P tm' h2 fn.results.toList))=_
   rw [q1.get k1 s2,q2];rfl
 | ret=>
   obtain ⟨hle,ml2,vs,v,hp,q1,q2,q3⟩:=q
   obtain ⟨h2,r2,s2⟩:=runD_st (s1.weak hp)
   refine ⟨v,h2,g',ml2,⟨n+1,?_⟩,s2,hle,q3⟩
   rw [sh]
   show sRet P fn.results.toList tm' (runD ds' h')=_
   rw [r2]
   show valR h2 (resV (resL P tm' h2 fn.results.toList))=_
   rw [q1.get k1 s2,q2];rfl
noncomputable def setA (N:Nat):List Nat→List V→AL→Option AL
 | [],[],al=>some al
 | p :: ps,v :: vs,al=>bif Nat.blt p N then setA N ps vs ((p,v) :: al) else none
 | _,_,_=>none
theorem setPs_kn:∀ {ps:List Nat} {vs:List V} {al al1:AL} {tm:TT V},setA N ps vs al=some al1→Kn tm al→∃ tm',setPs ps vs N tm=some tm'∧Kn tm' al1
 | [],[],al,al1,tm,h,k=>by cases h;exact ⟨tm,rfl,k⟩
 | p :: ps,v :: vs,al,al1,tm,h,k=>by
   unfold setA at h
   cases hb:Nat.blt p N with
   | false=>rw [hb] at h;cases h
   | true=>
     rw [hb] at h
     obtain ⟨tm',h1,h2⟩:=setPs_kn (ps:=ps) (vs:=vs) (tm:=tm.set p v) h (k.set p v)
     refine ⟨tm',?_,h2⟩
     unfold setPs
     rw [Qdy hb];exact h1
 | [],_ :: _,_,_,_,h,_=>by cases h
 | _ :: _,[],_,_,_,h,_=>by cases h
def rnd (lp:Lp):Ex→Lp
 | .normal=>{lp with st:=.ready,pending:=none}
 | .exit id=>{lp with st:=.done,pending:=some (.exit id)}
 | .ret=>{lp with st:=.done,pending:=some .ret}
def isN:Ex→Bool
 | .normal=>true
 | _=>false
theorem Fw.yield {l:Nat} {lp:Lp} {M:ML} {args:List V} {al0 al1:AL} {Post:G→ML→V→Prop} (hs:lp.st= .ready) (hk:Kn lp.tm al0) (hp:setA lp.N lp.params args al0=some al1)
  (h:∀ B,Wc P nat (some l) lp.N B lp.assign al1 g M [] fun e al2 g2 M2 ds=>e= .normal∧ds=[]∧Le g g2∧∀ B,Wc P nat (some l) lp.N B lp.body al2 g2 M2 [] fun e al3 g3 M3 ds=>ds=[]∧Le g2 g3∧Post g3 (.blk l (.loop (rnd lp e)) :: M3) (.b (isN e))):
  Fw P nat (.y l) args g (.blk l (.loop lp) :: M) Post:=fun m s=>by
 have s':St (Base.at m g (.blk l (.loop lp) :: M)) g ([.blk l (.loop lp)] ++ M) m:=s
 obtain ⟨tm1,p1,k1⟩:=setPs_kn hp hk
 obtain ⟨e,tm2,ds2,h2,r1,al2,g2,M2,k2,s2,rfl,rfl,le2,hb⟩:=h (Base.at m g M) tm1 m k1 (s'.self M ⟨_,List.Perm.refl _⟩)
 have t2:St (Base.at m g (.blk l (.loop lp) :: M)) g2 (.blk l (.loop lp) :: M2) h2:=s'.frame s2
 have get2:h2.get l=some (.loop lp):=t2.get .hd
 have fl2:h2.fl≤l:=t2.blkFl List.mem_cons_self
 have t3:St (Base.at m g (.blk l (.loop lp) :: M)) g2 ([.blk l (.loop {lp with st:=.busy})] ++ M2) (h2.put l (.loop {lp with st:=.busy})):=t2.put .hd
 obtain ⟨e3,tm3,ds3,h3,r3,al3,g3,M3,k3,s4,rfl,le3,post⟩:=hb _ tm2 (h2.put l (.loop {lp with st:=.busy})) k2 (t3.self M2 ⟨_,List.Perm.refl _⟩)
 have t4:St (Base.at m g (.blk l (.loop lp) :: M)) g3 (.blk l (.loop {lp with st:=.busy}) :: M3) h3:=t3.frame s4
 have get4:h3.get l=some (.loop {lp with st:=.busy}):=t4.get .hd
 have fl4:h3.fl≤l:=t4.blkFl List.mem_cons_self
 have t5:St (Base.at m g (.blk l (.loop lp) :: M)) g3 (.blk l (.loop (rnd lp e3)) :: M3) (h3.put l (.loop (rnd lp e3))):=t4.put .hd
 obtain ⟨n,a,b⟩:=r1.at2 r3
 refine ⟨.b (isN e3),h3.put l (.loop (rnd lp e3)),g3,_,⟨n+1,?_⟩,t5,le2.trans le3,post⟩
 have g0:m.get l=some (.loop lp):=s.get .hd
 show sYield (ev P nat n) l args m (m.get l)=_
 rw [g0]
 show sYield2 (ev P nat n) l lp m (setPs lp.params args lp.N lp.tm)=_
 rw [p1]
 show sRound0 (ev P nat n) l lp.N lp.body (ev P nat n (.code (some l) lp.N lp.assign tm1 [] m))=_
 rw [a]
 show sRound1 (ev P nat n) l lp.N lp.body tm2 h2 (h2.get l)=_
 rw [get2]
 show (if lp.st= .ready∧h2.fl≤l then sRound2 l (ev P nat n (.code (some l) lp.N lp.body tm2 [] (h2.put l (.loop {lp with st:=.busy})))) else none)=_
 rw [if_pos ⟨hs,fl2⟩,b]
 show sRound3 l e3 h3 (h3.get l)=_
 rw [get4]
 show (if ¬ h3.fl≤l then none else _)=_
 rw [if_neg (fun x=>x fl4)]
 cases e3 <;> rfl
structure Yd (P:Program) (nat:Nats) {X:Type} (y:V) (RX:G→List V→X→Prop) (S:List X→G→ML→Prop) (E:G→ML→Prop):Prop where
 any:y.any? =false
 cells:y.cells=[y]
 one:oneV y=true
 go:∀ x xs g ml args,S (x :: xs) g ml→RX g args x→Fw P nat y args g ml fun g' ml' r=>(r= .b true∧S xs g' ml')∨(r= .b false∧E g' ml')
 monoS:∀ xs g g' ml,Le g g'→S xs g ml→S xs g' ml
 monoE:∀ g g' ml,Le g g'→E g ml→E g' ml
def It (P:Program) (nat:Nats) {X:Type} (f:V) (g0:G) (ml0:ML) (RX:G→List V→X→Prop) (L:List X):Prop:=
 ∀ y S E,Yd P nat y RX S E→∀ g ml,Le g0 g→S L g ml→Fw P nat f [y] g (ml0 ++ ml) fun g' ml' _=>S [] g' ml'∨E g' ml'
theorem It.le {X:Type} {f:V} {ml0:ML} {RX:G→List V→X→Prop} {L:List X} (h:It P nat f g0 ml0 RX L) (hl:Le g0 g):It P nat f g ml0 RX L:=fun y S E hy g' ml hle hS=>h y S E hy g' ml (hl.trans hle) hS
def AggR {X:Type} (R:G→List V→X→Prop) (g:G) (args:List V) (x:X):Prop:=∃ cs,args=[.agg cs]∧R g cs x
def yl {X:Type} (x:X) (o:Option (List X)):Option (List X):=o.bind fun l=>some (x :: l)
theorem ylS {X:Type} {x:X} {o:Option (List X)} {r:List X} (h:yl x o=some r):∃ l,o=some l∧r=x :: l:=by
 unfold yl at h
 cases o with
 | none=>cases h
 | some l=>exact ⟨l,rfl,(Option.some.inj h).symm⟩
inductive Fr:ML→ML→ML→Prop
 | nil {m:ML}:Fr [] m m
 | app {d m:ML}:Fr d m (d ++ m)
 | cons {r:Res} {fr m l:ML}:Fr fr m l→Fr (r :: fr) m (r :: l)
theorem Fr.eq {fr m l:ML} (h:Fr fr m l):l=fr ++ m:=by
 induction h with
 | nil=>rfl
 | app=>rfl
 | cons _ ih=>rw [ih];rfl
def rdQ {α X:Type} (P:Program) (nat:Nats) (l N:Nat) (body:Code) (M:α→ML) (J:List X→α→G→Prop) (JE:Ex→α→G→Prop) (xs:List X) (g0:G):AQ:=fun e al g ml ds=>
 e= .normal∧ds=[]∧Le g0 g∧∀ B,Wc P nat (some l) N B body al g ml [] fun e al g' ml ds=>ds=[]∧Le g g'∧∃ x,(M x).Sublist ml∧(match e with | .normal=>J xs x g' | e=>JE e x g')
theorem Wc.rangeL {α X:Type} {RX:G→List V→X→Prop} {L:List X} {fv:V} {ml0:ML} {f:Operand} {ps:Array Nat} {asg body:Code} (mx:ML) (Mm:ML→α→ML) (J:List X→α→G→Prop) (JE:Ex→α→G→Prop) (x0:α)
  (hf:vA al f=some fv) (hit:It P nat fv g0 ml0 RX L) (hle:Le g0 g) (hm0:(ml0 ++ Mm mx x0).Sublist ml)
  (hJ:∀ xs x g g',Le g g'→J xs x g→J xs x g') (hE:∀ e x g g',Le g g'→JE e x g→JE e x g') (hj:J L x0 g)
  (round:∀ l B y xs x g' args,Le g g'→J (y :: xs) x g'→RX g' args y→∃ al1,setA N ps.toList args al=some al1∧Wc P nat (some l) N B asg al1 g' (Mm mx x) [] (rdQ P nat l N body (Mm mx) J JE xs g'))
  (fin:∀ d x g',Le g g'→J [] x g'→Q .normal al g' (.blk d .dfr :: Mm mx x) (.coll d :: ds))
  (finE:∀ d e x g',isN e=false→Le g g'→JE e x g'→Q e al g' (.blk d .dfr :: Mm mx x) (.coll d :: ds)):
  Wc P nat none N B (.rangeFunc f ps asg body) al g ml ds Q:=fun tm m hk s=>by
 replace s:=s.weak hm0
 have hm:(ml0 ++ Mm mx x0).Perm (ml0 ++ Mm mx x0):=List.Perm.refl _
 generalize Mm mx=M at *
 have n1:(m.new .dfr).n=m.n+1:=rfl
 have s1:=(s.new .dfr).new (.loop ⟨N,tm,ps.toList,asg,body,.ready,none,m.n⟩)
 have hp:(Res.blk (m.new .dfr).n (.loop ⟨N,tm,ps.toList,asg,body,.ready,none,m.n⟩) :: .blk m.n .dfr :: (ml0 ++ M x0)).Perm ([.blk m.n .dfr] ++ (ml0 ++ (.blk (m.new .dfr).n (.loop ⟨N,tm,ps.toList,asg,body,.ready,none,m.n⟩) :: M x0))):=
  (List.Perm.swap _ _ _).trans (List.Perm.cons _ ((hm.cons _).trans List.perm_middle.symm))
 have s2:=s1.perm hp
 generalize hl:(m.new .dfr).n=l at *
 generalize hlp:(⟨N,tm,ps.toList,asg,body,.ready,none,m.n⟩:Lp)=lp at *
 have q1:lp.st= .ready:=by rw [←hlp]
 have q2:lp.pending=none:=by rw [←hlp]
 have q3:lp.tm=tm:=by rw [←hlp]
 have q4:lp.N=N:=by rw [←hlp]
 have q5:lp.params=ps.toList:=by rw [←hlp]
 have q6:lp.assign=asg:=by rw [←hlp]
 have q7:lp.body=body:=by rw [←hlp]
 have q8:rnd lp .normal=lp:=by rw [←hlp];rfl
 have hy:Yd P nat (.y l) RX (fun xs g' ml=>Le g g'∧∃ x,ml= .blk l (.loop lp) :: M x∧J xs x g') (fun g' ml=>Le g g'∧∃ e x,isN e=false∧ml= .blk l (.loop (rnd lp e)) :: M x∧JE e x g'):=by
  refine ⟨rfl,rfl,rfl,fun x xs g' ml args ⟨hg,z,h1,h2⟩ hr=>?_,fun xs g1 g2 ml h ⟨hg,z,h1,h2⟩=>⟨hg.trans h,z,h1,hJ _ _ _ _ h h2⟩,fun g1 g2 ml h ⟨hg,e,z,h0,h1,h2⟩=>⟨hg.trans h,e,z,h0,h1,hE _ _ _ _ h h2⟩⟩
  subst h1
  have hw:Fw P nat (.y l) args g' (.blk l (.loop lp) :: M z) fun g3 ml' r=>∃ e M3,r= .b (isN e)∧ml'= .blk l (.loop (rnd lp e)) :: M3∧Le g g3∧∃ x,(M x).Sublist M3∧(match e with | .normal=>J xs x g3 | e=>JE e x g3):=by
    obtain ⟨al1,ha,_⟩:=round l (Base.at m g ml) x xs z g' args hg h2 hr
    refine Fw.yield (al0:=al) (al1:=al1) q1 (by rw [q3];exact hk) (by rw [q4,q5];exact ha) fun B'=>?_
    obtain ⟨al2,ha2,hw⟩:=round l B' x xs z g' args hg h2 hr
    rw [ha] at ha2
    cases ha2
    rw [q4,q6,q7]
    intro tm' m' hk' s'
    obtain ⟨e,tm2,ds2,h2',r1,al2,g2,M2,k2,s2',rfl,rfl,le2,hb⟩:=hw tm' m' hk' s'
    refine ⟨_,tm2,_,h2',r1,al2,g2,M2,k2,s2',rfl,rfl,le2,fun B tm3 m3 hk3 s3=>?_⟩
    obtain ⟨e3,tm4,ds4,h4,r4,al4,g4,M4,k4,s4,rfl,le4,x',h5,h6⟩:=hb B tm3 m3 hk3 s3
    exact ⟨e3,tm4,_,h4,r4,al4,g4,M4,k4,s4,rfl,le4,e3,M4,rfl,rfl,(hg.trans le2).trans le4,x',h5,h6⟩
  refine hw.forget fun g3 ml' r _ ⟨e,M3,h3,h4,h5,x',h6,h7⟩=>?_
  subst h3 h4
  cases e with
  | normal=>exact ⟨.blk l (.loop lp) :: M x',by rw [q8];exact h6.cons_cons _,.inl ⟨rfl,h5,x',rfl,h7⟩⟩
  | exit i=>exact ⟨.blk l (.loop (rnd lp (.exit i))) :: M x',h6.cons_cons _,.inr ⟨rfl,h5,.exit i,x',rfl,rfl,h7⟩⟩
  | ret=>exact ⟨.blk l (.loop (rnd lp .ret)) :: M x',h6.cons_cons _,.inr ⟨rfl,h5,.ret,x',rfl,rfl,h7⟩⟩
 obtain ⟨r,h',g',ml',⟨n,r1⟩,k1,k2,post⟩:=hit (.y l) _ _ hy g (.blk l (.loop lp) :: M x0) hle ⟨Le.refl _,x0,rfl,hj⟩ _ (s2.self (ml0 ++ (.blk l (.loop lp) :: M x0)) ⟨_,List.Perm.refl _⟩)
 have t:=s2.frame k1
 have run:ev P nat (n+1) (.code none N (.rangeFunc f ps asg body) tm ds m)=sEnd l tm (.coll m.n :: ds) (ev P nat n (.call fv [.y l] ((m.new .dfr).new (.loop lp)))):=by
  rw [←hl, ←hlp]
  show sRange (ev P nat n) N (ev0 tm f) ps.toList asg body tm ds m none=_
  rw [hk.ev hf]
  rfl
 rw [r1] at run
 have fin1:∀ e x,ml'= .blk l (.loop (rnd lp e)) :: M x→ev P nat (n+1) (.code none N (.rangeFunc f ps asg body) tm ds m)=some (.ex e tm (.coll m.n :: ds) (h'.put l (.loop {rnd lp e with st:=.exhausted})))∧St B g' (.blk m.n .dfr :: M x) (h'.put l (.loop {rnd lp e with st:=.exhausted})):=by
  intro e x hx
  subst hx
  have t1:St B g' (.blk l (.loop (rnd lp e)) :: .blk m.n .dfr :: M x) h':=t.perm (List.Perm.swap _ _ _)
  have ge:h'.get l=some (.loop (rnd lp e)):=t1.get .hd
  have fe:h'.fl≤l:=t1.blkFl List.mem_cons_self
  have t2:St B g' (.blk l (.loop {rnd lp e with st:=.exhausted}) :: .blk m.n .dfr :: M x) (h'.put l (.loop {rnd lp e with st:=.exhausted})):=t1.put .hd
  refine ⟨?_,t2.weak (List.sublist_cons_self _ _)⟩
  rw [run]
  show sEnd2 l tm (.coll m.n :: ds) h' (h'.get l)=_
  rw [ge]
  show sEnd3 l (rnd lp e) tm (.coll m.n :: ds) h' (jumpO (rnd lp e).pending)=_
  cases e with
  | normal=>
    show (if (LoopState.ready=LoopState.busy∨¬ h'.fl≤l) then none else _)=_
    rw [if_neg (fun x=>x.elim (fun y=>by cases y) (fun y=>y fe))]
  | exit i=>
    show (if (LoopState.done=LoopState.busy∨¬ h'.fl≤l) then none else _)=_
    rw [if_neg (fun x=>x.elim (fun y=>by cases y) (fun y=>y fe))]
  | ret=>
    show (if (LoopState.done=LoopState.busy∨¬ h'.fl≤l) then none else _)=_
    rw [if_neg (fun x=>x.elim (fun y=>by cases y) (fun y=>y fe))]
 rcases post with ⟨_,x,h1,h2⟩ | ⟨_,e,x,h0,h1,h2⟩
 ·obtain ⟨a,b⟩:=fin1 .normal x (by rw [q8];exact h1)
  exact ⟨_,tm,_,_,⟨n+1,a⟩,al,g',_,hk,b,fin m.n x g' k2 h2⟩
 ·obtain ⟨a,b⟩:=fin1 e x h1
  exact ⟨_,tm,_,_,⟨n+1,a⟩,al,g',_,hk,b,finE m.n e x g' h0 k2 h2⟩
theorem St.neg {h:H} {b c:Nat} {x y:Blk} {ml1:ML} (k:St B g ml h) (h1:Tk (.blk c x) ml ml1) (hb:g b=some y):c≠b:=fun e=>by
 have:=(k.fresh c (mem_fps h1.mem (by simp [Res.fp]))).1
 rw [e,hb] at this
 cases this
theorem St.negP {h:H} {b c o:Nat} {x:Blk} {cs:List V} {ml1:ML} (k:St B g ml h) (h1:Tk (.blk c x) ml ml1) (hb:Pt g b o cs):c≠b:=by
 obtain ⟨full,tt,h2,_⟩:=hb
 exact k.neg h1 h2
theorem Wo.callY {X:Type} {RX:G→List V→X→Prop} {S:List X→G→ML→Prop} {E:G→ML→Prop} {f:Operand} {xs:Array Operand} {ats:Array TypeId} {d ty:Nat} {pos:String} {af:Array Edge} {gd:Option (Nat × Bool)} {y:V} {args:List V} {fr m:ML} {x:X} {r:List X} {ops l:List Oper} {R:OQ} (hg:Gd ops al gd) (hd:Nat.blt d N=true)
  (hf:vA al f=some y) (hx:vAs al xs.toList=some args) (hy:Yd P nat y RX S E) (hm0:Fr fr m ml) (hS:S (x :: r) g m) (hr:RX g args x)
  (kt:∀ g' m',Le g g'→S r g' m'→Wo P nat N B ops l ((d,.b true) :: al) g' (fr ++ m') R)
  (kf:∀ g' m',Le g g'→E g' m'→Wo P nat N B ops l ((d,.b false) :: al) g' (fr ++ m') R):
  Wo P nat N B ops (⟨some d,.call ⟨.value f,xs,ats⟩,ty,pos,af,gd⟩ :: l) al g ml R:=by
 have hm:=hm0.eq
 subst hm
 refine Wo.callW hg hd hf hx (List.Perm.refl _) (hy.go x r g m args hS hr) fun g' m' q hle h=>?_
 rcases h with ⟨rfl,h⟩ | ⟨rfl,h⟩
 ·exact kt g' m' hle h
 ·exact kf g' m' hle h
def loopDQ {α:Type} (A:α→AL) (M:α→ML) (Dl:α→List D) (J:α→G→Prop) (μ:α→Nat) (g0:G) (x:α) (Q:AQ):AQ:=fun e al g ml ds'=>match e with
 | .normal=>∃ x',ds'=Dl x'∧SubL al (A x')∧(∀ B h,St B g ml h→St B g (M x') h)∧Le g0 g∧J x' g∧μ x' < μ x
 | .exit i=>Q (.exit i) al g ml ds'
 | .ret=>Q .ret al g ml ds'
theorem lqD_r {α:Type} {A:α→AL} {M:α→ML} {Dl:α→List D} {J:α→G→Prop} {μ:α→Nat} {x:α} (h:Q .ret al g ml ds):loopDQ A M Dl J μ g0 x Q .ret al g ml ds:=h
theorem lqD_e {α:Type} {A:α→AL} {M:α→ML} {Dl:α→List D} {J:α→G→Prop} {μ:α→Nat} {x:α} {i:Nat} (h:Q (.exit i) al g ml ds):loopDQ A M Dl J μ g0 x Q (.exit i) al g ml ds:=h
theorem loopDQ_n {α:Type} {A:α→AL} {M:α→ML} {Dl:α→List D} {J:α→G→Prop} {μ:α→Nat} {x:α} (x':α) (h0:ds=Dl x') (h1:SubL al (A x')) (h2:∀ B h,St B g ml h→St B g (M x') h) (h3:Le g0 g) (h4:J x' g) (h5:μ x' < μ x):loopDQ A M Dl J μ g0 x Q .normal al g ml ds:=⟨x',h0,h1,h2,h3,h4,h5⟩
theorem Wc.loopD {α:Type} {ro:Option Nat} (fx:AL) (mx:ML) (A:AL→α→AL) (M:ML→α→ML) (Dl:α→List D) (J:α→G→Prop) (μ:α→Nat) {c:Code} (x:α) (ha:SubL al (A fx x)) (hm:(M mx x).Sublist ml) (hd:ds=Dl x) (hj:J x g)
  (round:∀ x g',Le g g'→J x g'→Wc P nat ro N B c (A fx x) g' (M mx x) (Dl x) (loopDQ (A fx) (M mx) Dl J μ g' x Q)):Wc P nat ro N B (.loop c) al g ml ds Q:=by
 subst hd
 refine Wc.sub ha (Wc.drop hm ?_)
 clear ha hm
 have main:∀ n x g',Le g g'→J x g'→μ x=n→Wc P nat ro N B (.loop c) (A fx x) g' (M mx x) (Dl x) Q:=by
  intro n
  induction n using Nat.strongRecOn with
  | ind n ih=>
    intro x g' hg hj hx tm m hk s
    obtain ⟨e,tm1,ds1,h1,r1,al1,g1,ml1,k1,s1,q1⟩:=round x g' hg hj tm m hk s
    cases e with
    | normal=>
      obtain ⟨x',rfl,q2,q3,q4,q5,q6⟩:=q1
      obtain ⟨e2,tm2,ds2,h2,r2,q⟩:=ih (μ x') (by omega) x' g1 (hg.trans q4) q5 rfl tm1 h1 (k1.sub q2) (q3 _ _ s1)
      obtain ⟨k,a,b⟩:=r1.at2 r2
      exact ⟨e2,tm2,ds2,h2,⟨k+1,by show sLoop (ev P nat k) ro N c (ev P nat k (.code ro N c tm (Dl x) m))=_;rw [a];exact b⟩,q⟩
    | exit i=>
      obtain ⟨k,a⟩:=r1
      exact ⟨.exit i,tm1,ds1,h1,⟨k+1,by show sLoop (ev P nat k) ro N c (ev P nat k (.code ro N c tm (Dl x) m))=_;rw [a];rfl⟩,al1,g1,ml1,k1,s1,q1⟩
    | ret=>
      obtain ⟨k,a⟩:=r1
      exact ⟨.ret,tm1,ds1,h1,⟨k+1,by show sLoop (ev P nat k) ro N c (ev P nat k (.code ro N c tm (Dl x) m))=_;rw [a];rfl⟩,al1,g1,ml1,k1,s1,q1⟩
 exact main _ x g (Le.refl _) hj rfl
theorem OpL.sO {t:TypeId} {x:Operand} {b o o' tt:Nat} {cs:List V} {v:V} (hx:vA al x=some (.p b o)) (ho:o=o') (hb:Hb g b (.cells cs tt) ml) (ha:aggO P t=some false) (hv:lget cs o'=some v):OpL P al g ml t x b v:=by
 subst ho;exact .s hx hb ha hv
theorem OpP.ixai {t:TypeId} {x i:Operand} {b o n s:Nat} {k:IntKind} {j:Int} (hx:vA al x=some (.p b o)) (hi:vA al i=some (.i k j)) (ht:aeO P t=some (n,s)) (h:0≤j∧j < n):OpP P al (.indexAddr t x i) (.p b (o+j.toNat * s)):=by
 obtain ⟨q,rfl⟩:∃ q:Nat,j=q:=⟨j.toNat,by omega⟩
 rw [Int.toNat_natCast]
 exact .ixa hx hi ht (by omega)
theorem Wo.ldc {t:TypeId} {x:Operand} {d ty b:Nat} {pos:String} {af:Array Edge} {gd:Option (Nat × Bool)} {ops l:List Oper} {R:OQ} {Φ:V→Prop} (hg:Gd ops al gd) (hd:Nat.blt d N=true) (hp:∃ v,OpL P al g ml t x b v∧Φ v) (k:∀ v,Φ v→Wo P nat N B ops l ((d,v) :: al) g ml R):Wo P nat N B ops (⟨some d,.load t x,ty,pos,af,gd⟩ :: l) al g ml R:=by
 obtain ⟨v,h1,h2⟩:=hp
 exact .ld hg hd h1 (k v h2)
theorem Wd.ldc {t:TypeId} {x:Operand} {d ty b k i:Nat} {pos:String} {af:Array Edge} {gd:Option (Nat × Bool)} {ops l:List Oper} {R:OQ} {Φ:V→Prop} {mu:Option Nat} {a:Ri} {tb:List Ri} {sg:List Sg} {ls:List (Nat × Nat)} {ps:List Pd2} (hg:Gd ops al gd) (hd:Nat.blt d N=true) (hk0:sg.length - 1 - a.st=k) (hq:lget sg k=some (g,ml,mu)) (hf:FrS B b k sg) (hp:∃ v,OpL P al g ml t x b v∧Φ v)
  (kk:∀ v,Φ v→Wd P nat N B ops l tb (i+1) ((d,v) :: al) sg ((i,b) :: ls) ps R):Wd P nat N B ops (⟨some d,.load t x,ty,pos,af,gd⟩ :: l) (a :: tb) i al sg ls ps R:=by
 obtain ⟨v,h1,h2⟩:=hp
 exact .ld hg hd hk0 hq hf h1 (kk v h2)
theorem sym2 {j:Int} {X:Prop} (h:0≤j∧j < (2:Nat)) (a:j=0→X) (b:j=1→X):X:=by
 have:j=0∨j=1:=by omega
 exact this.elim a b
theorem symB {j:Int} {n:Nat} (h:(decide ((0:Int)≤j) && decide (j < (n:Int)))=true):0≤j∧j < n:=by
 simpa using h
end
end Go.Ev
