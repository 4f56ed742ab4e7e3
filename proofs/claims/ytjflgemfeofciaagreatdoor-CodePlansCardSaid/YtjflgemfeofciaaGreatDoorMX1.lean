import Derived.Test.YtjflgemfeofciaaGreatDoorME3
import Derived.IntWalk
namespace Go.Ev
open Go
set_option linter.unusedVariables false
set_option linter.unusedSimpArgs false
section
variable {P:Program} {nat:Nats} {go go':Task→Option Out}
def LeG (go go':Task→Option Out):Prop:=∀ t o,go t=some o→go' t=some o
theorem valO_mono (h:LeG go go') {t:Task} {p:V × H} (hp:valO (go t)=some p):valO (go' t)=some p:=by
 have e:=valO_some hp
 rw [h _ _ e]
 rw [e] at hp
 exact hp
theorem oneO_mono (h:LeG go go') {m:H} {r:Operand→V} {o:Op} {p:V × H} (hp:oneO P go m r o=some p):oneO P go' m r o=some p:=by
 unfold oneO at hp ⊢
 unfold oneV' at hp ⊢
 split at hp
 ·exact valO_mono h hp
 ·exact hp
theorem runOp_mono (h:LeG go go') {N:Nat} {ops:List Oper} {o:Oper} {k k':TT V→H→Option (TT V × H)} (hk:∀ tm m p,k tm m=some p→k' tm m=some p) {tm:TT V} {m:H} {p:TT V × H}
  (hp:runOp P go N ops o k tm m=some p):runOp P go' N ops o k' tm m=some p:=by
 unfold runOp at hp ⊢
 split at hp
 ·rename_i hw
  try rw [hw]
  try simp only []
  split at hp
  · rename_i q tm' h' ho
    have:Qdp N tm m o.dst (oneO P go' m (ev0 tm) o.op)=some (tm',h'):=by
     unfold Qdp at ho ⊢
     split at ho
     ·rename_i v h2 h1
      rw [oneO_mono h h1]
      exact ho
     ·cases ho
    rw [this]
    exact hk _ _ _ hp
  · cases hp
 ·rename_i hw
  try rw [hw]
  try simp only []
  split at hp
  · rename_i tm' ht
    try rw [ht]
    exact hk _ _ _ hp
  · cases hp
 ·cases hp
theorem runOps_mono (h:LeG go go') {N:Nat} {ops:List Oper}:∀ {l:List Oper} {tm:TT V} {m:H} {p:TT V × H},Qdm P go N ops l tm m=some p→Qdm P go' N ops l tm m=some p
 | [],_,_,_,hp=>hp
 | o :: l,tm,m,p,hp=>by
   have e:∀ g,Qdm P g N ops (o :: l)=runOp P g N ops o (Qdm P g N ops l):=fun _=>rfl
   rw [e] at hp ⊢
   exact runOp_mono h (fun _ _ _ hx=>runOps_mono h hx) hp
theorem oneD_mono (h:LeG go go') {n0:Nat} {r:Operand→V} {row:Row} {S:Ms} {m:H} {p:V × Ms} (hp:oneD P go n0 r row S m=some p):oneD P go' n0 r row S m=some p:=by
 unfold oneD at hp ⊢
 split at hp
 ·rename_i he
  try rw [he]
  try simp only []
  unfold effE effD at hp ⊢
  split at hp
  ·rename_i f xs hc
   try rw [hc]
   try simp only []
   split at hp
   ·rename_i hf
    try rw [hf]
    try simp only []
    unfold addH at hp ⊢
    split at hp
    ·rename_i v m' hv
     rw [valO_mono h hv]
     exact hp
    ·cases hp
   ·rename_i hf
    try rw [hf]
    try simp only []
    unfold addH at hp ⊢
    split at hp
    ·rename_i v m' hv
     have:lower (mergeA row.anc S.ps m).fl (valO (go' (.call (r f) (lmap r xs) (raise (kR ⟨S.hs,S.ls,restA row.anc S.ps⟩ row (mergeA row.anc S.ps m)) (mergeA row.anc S.ps m)))))=some (v,m'):=by
      unfold lower at hv ⊢
      split at hv
      ·rename_i v2 m2 h2
       rw [valO_mono h h2]
       exact hv
      ·cases hv
     rw [this]
     exact hp
    ·cases hp
  ·rename_i hc
   try rw [hc]
   try simp only []
   exact hp
 ·rename_i he
  try rw [he]
  try simp only []
  exact hp
theorem runRow_mono (h:LeG go go') {n0 N:Nat} {ops:List Oper} {row:Row} {k k':TT V→Ms→Option (TT V × Ms)} (hk:∀ tm m p,k tm m=some p→k' tm m=some p) {tm:TT V} {S:Ms} {p:TT V × Ms}
  (hp:Qcx P go n0 N ops row k tm S=some p):Qcx P go' n0 N ops row k' tm S=some p:=by
 unfold Qcx at hp ⊢
 split at hp
 ·cases hp
 ·rename_i m q rest hS
  try rw [hS]
  try simp only []
  split at hp
  · rename_i hw
    try rw [hw]
    try simp only []
    split at hp
    ·rename_i v S' ho
     try rw [oneD_mono h ho]
     try simp only []
     split at hp
     ·rename_i tm' ht
      try rw [ht]
      exact hk _ _ _ hp
     ·cases hp
    ·cases hp
  · rename_i hw
    try rw [hw]
    try simp only []
    split at hp
    ·rename_i tm' ht
     try rw [ht]
     exact hk _ _ _ hp
    ·cases hp
  · cases hp
theorem Qcv (h:LeG go go') {n0 N:Nat} {ops:List Oper}:∀ {l:List Row} {tm:TT V} {S:Ms} {p:TT V × Ms},Qdf P go n0 N ops l tm S=some p→Qdf P go' n0 N ops l tm S=some p
 | [],_,_,_,hp=>hp
 | o :: l,tm,m,p,hp=>by
   have e:∀ g,Qdf P g n0 N ops (o :: l)=Qcx P g n0 N ops o (Qdf P g n0 N ops l):=fun _=>rfl
   rw [e] at hp ⊢
   exact runRow_mono h (fun _ _ _ hx=>Qcv h hx) hp
theorem runRegion_mono (h:LeG go go') {N:Nat} {ops:Array Oper} {draw:Bool} {tm:TT V} {ds:List D} {m:H} {o:Out} (hp:runRegion P go N ops draw tm ds m=some o):runRegion P go' N ops draw tm ds m=some o:=by
 unfold runRegion at hp ⊢
 cases draw with
 | false=>
   simp only [] at hp ⊢
   unfold endOps at hp ⊢
   split at hp
   ·rename_i tm' m' hr
    rw [runOps_mono h hr]
    exact hp
   ·cases hp
 | true=>
   simp only [] at hp ⊢
   unfold runDraw at hp ⊢
   split at hp
   ·rename_i l hl
    try rw [hl]
    try simp only []
    unfold endRows at hp ⊢
    split at hp
    ·rename_i tm' m' x1 x2 x3 x4 hr
     rw [Qcv h hr]
     exact hp
    ·cases hp
   ·cases hp
theorem seq_mono (h:LeG go go') {ro:Option Nat} {N:Nat} {y:Code} {t:Task} {o:Out} (hp:sSeq go ro N y (go t)=some o):sSeq go' ro N y (go' t)=some o:=by
 cases hx:go t with
 | none=>rw [hx] at hp;cases hp
 | some x=>
   rw [hx] at hp
   rw [h _ _ hx]
   cases x with
   | val v m=>exact hp
   | ex e tm ds m=>cases e with
     | normal=>exact h _ _ hp
     | exit i=>exact hp
     | ret=>exact hp
theorem block_mono (h:LeG go go') {id:Nat} {t:Task} {o:Out} (hp:sBlock id (go t)=some o):sBlock id (go' t)=some o:=by
 cases hx:go t with
 | none=>rw [hx] at hp;cases hp
 | some x=>rw [hx] at hp;rw [h _ _ hx];exact hp
theorem loop_mono (h:LeG go go') {ro:Option Nat} {N:Nat} {c:Code} {t:Task} {o:Out} (hp:sLoop go ro N c (go t)=some o):sLoop go' ro N c (go' t)=some o:=by
 cases hx:go t with
 | none=>rw [hx] at hp;cases hp
 | some x=>
   rw [hx] at hp
   rw [h _ _ hx]
   cases x with
   | val v m=>exact hp
   | ex e tm ds m=>cases e with
     | normal=>exact h _ _ hp
     | exit i=>exact hp
     | ret=>exact hp
theorem end_mono (h:LeG go go') {l:Nat} {tm:TT V} {ds:List D} {t:Task} {o:Out} (hp:sEnd l tm ds (go t)=some o):sEnd l tm ds (go' t)=some o:=by
 cases hx:go t with
 | none=>rw [hx] at hp;cases hp
 | some x=>rw [hx] at hp;rw [h _ _ hx];exact hp
theorem range1_mono (h:LeG go go') {N:Nat} {f:V} {ps:List Nat} {asg body:Code} {tm:TT V} {ds:List D} {d:Nat} {m:H} {o:Out} (hp:sRange1 go N f ps asg body tm ds d m=some o):sRange1 go' N f ps asg body tm ds d m=some o:=end_mono h hp
theorem range_mono (h:LeG go go') {N:Nat} {f:V} {ps:List Nat} {asg body:Code} {tm:TT V} {ds:List D} {m:H} {ro:Option Nat} {o:Out} (hp:sRange go N f ps asg body tm ds m ro=some o):sRange go' N f ps asg body tm ds m ro=some o:=by
 cases ro with
 | none=>exact range1_mono h hp
 | some l=>
   unfold sRange sRange0 at hp ⊢
   simp only [] at hp ⊢
   split at hp
   ·rename_i lp hl
    try rw [hl]
    exact range1_mono h hp
   ·cases hp
theorem code_mono (h:LeG go go') {ro:Option Nat} {N:Nat} {c:Code} {tm:TT V} {ds:List D} {m:H} {o:Out} (hp:sCode P go ro N c tm ds m=some o):sCode P go' ro N c tm ds m=some o:=by
 unfold sCode at hp ⊢
 cases c with
 | skip=>exact hp
 | label _=>exact hp
 | seq x y=>exact seq_mono h hp
 | cond c x y=>
   simp only [] at hp ⊢
   unfold sCond at hp ⊢
   split at hp
   ·rename_i hc;try rw [hc]
    exact h _ _ hp
   ·rename_i hc;try rw [hc]
    exact h _ _ hp
   ·cases hp
 | block id c=>exact block_mono h hp
 | loop c=>exact loop_mono h hp
 | scope c=>exact h _ _ hp
 | exit id=>exact hp
 | ret=>exact hp
 | region i ops d=>exact runRegion_mono h hp
 | rangeFunc f ps a b=>exact range_mono h hp
 | _=>cases hp
theorem body_mono (h:LeG go go') {rs:List ResultVar} {t:Task} {o:Out} (hp:sBody P rs (go t)=some o):sBody P rs (go' t)=some o:=by
 cases hx:go t with
 | none=>rw [hx] at hp;cases hp
 | some x=>rw [hx] at hp;rw [h _ _ hx];exact hp
theorem fn_mono (h:LeG go go') {f:Nat} {xs:List V} {m:H} {q:Option (List V→Option V)} {o:Out} (hp:sFn P go f xs m q=some o):sFn P go' f xs m q=some o:=by
 unfold sFn at hp ⊢
 cases q with
 | some F=>exact hp
 | none=>
   simp only [] at hp ⊢
   unfold sFn1 at hp ⊢
   split at hp
   ·rename_i fn hf
    try rw [hf]
    try simp only []
    cases hn:numO fn with
    | true=>rw [hn] at hp;cases hp
    | false=>
      rw [hn] at hp
      simp only [] at hp ⊢
      unfold sFn2 at hp ⊢
      split at hp
      ·rename_i c hc
       try rw [hc]
       exact body_mono h hp
      ·cases hp
   ·cases hp
theorem round2_mono (h:LeG go go') {l:Nat} {t:Task} {o:Out} (hp:sRound2 l (go t)=some o):sRound2 l (go' t)=some o:=by
 cases hx:go t with
 | none=>rw [hx] at hp;cases hp
 | some x=>rw [hx] at hp;rw [h _ _ hx];exact hp
theorem round0_mono (h:LeG go go') {l N:Nat} {body:Code} {t:Task} {o:Out} (hp:sRound0 go l N body (go t)=some o):sRound0 go' l N body (go' t)=some o:=by
 cases hx:go t with
 | none=>rw [hx] at hp;cases hp
 | some x=>
   rw [hx] at hp
   rw [h _ _ hx]
   unfold sRound0 at hp ⊢
   split at hp
   ·rename_i tm m he
    cases he
    try simp only []
    unfold sRound1 at hp ⊢
    split at hp
    ·rename_i lp hl
     try rw [hl]
     try simp only []
     split at hp
     ·rename_i hc
      rw [if_pos hc]
      exact round2_mono h hp
     ·cases hp
    ·cases hp
   ·cases hp
theorem yield_mono (h:LeG go go') {l:Nat} {args:List V} {m:H} {b:Option Blk} {o:Out} (hp:sYield go l args m b=some o):sYield go' l args m b=some o:=by
 unfold sYield at hp ⊢
 split at hp
 ·unfold sYield2 at hp ⊢
  split at hp
  ·rename_i tm ht
   try rw [ht]
   exact round0_mono h hp
  ·cases hp
 ·cases hp
theorem sStep_mono (h:LeG go go'):LeG (sStep P nat go) (sStep P nat go'):=by
 intro t o hp
 cases t with
 | code ro N c tm ds m=>exact code_mono h hp
 | call v args m=>
   show sCall P nat go' v args m=some o
   have hp:sCall P nat go v args m=some o:=hp
   unfold sCall at hp ⊢
   split at hp
   ·exact fn_mono h hp
   ·exact yield_mono h hp
   ·cases hp
theorem ev_succ (n:Nat):ev P nat (n+1)=sStep P nat (ev P nat n):=rfl
theorem ev_le1:∀ n,LeG (ev P nat n) (ev P nat (n+1))
 | 0=>fun t o h=>by cases h
 | n+1=>by
   rw [ev_succ (n:=n),ev_succ (n:=n+1)]
   exact sStep_mono (ev_le1 n)
theorem ev_le {n m:Nat} (h:n≤m):LeG (ev P nat n) (ev P nat m):=by
 induction h with
 | refl=>exact fun _ _ x=>x
 | step _ ih=>exact fun t o x=>ev_le1 _ _ _ (ih t o x)
end
def Run (P:Program) (nat:Nats) (t:Task) (o:Out):Prop:=∃ n,ev P nat n t=some o
section
variable {P:Program} {nat:Nats}
theorem Run.step {t:Task} {o:Out} {n:Nat} (h:sStep P nat (ev P nat n) t=some o):Run P nat t o:=⟨n+1,h⟩
theorem Run.at2 {t u:Task} {a b:Out} (h:Run P nat t a) (k:Run P nat u b):∃ n,ev P nat n t=some a∧ev P nat n u=some b:=by
 obtain ⟨n,h⟩:=h
 obtain ⟨m,k⟩:=k
 exact ⟨max n m,ev_le (Nat.le_max_left n m) _ _ h,ev_le (Nat.le_max_right n m) _ _ k⟩
end
end Go.Ev
namespace Go.Ev
open Go
set_option linter.unusedVariables false
set_option linter.unusedSimpArgs false
abbrev AL:=List (Nat × V)
noncomputable def lk (al:AL) (t:Nat):Option V:=List.rec none (fun p _ ih=>Prod.rec (fun k v=>Bool.rec ih (some v) (Nat.beq k t)) p) al
def Kn (tm:TT V) (al:AL):Prop:=∀ t v,lk al t=some v→tget tm t=v
theorem lk_cons (k:Nat) (v:V) (al:AL) (t:Nat):lk ((k,v) :: al) t=if k=t then some v else lk al t:=by
 show Bool.rec (motive:=fun _=>Option V) (lk al t) (some v) (Nat.beq k t)=_
 by_cases h:k=t
 ·subst h;rw [if_pos rfl,Nat.beq_refl]
 ·rw [if_neg h]
  cases hb:Nat.beq k t with
  | false=>rfl
  | true=>exact absurd (Nat.eq_of_beq_eq_true hb) h
theorem Kn.nil (tm:TT V):Kn tm []:=fun _ _ h=>by cases h
theorem Kn.set {tm:TT V} {al:AL} (h:Kn tm al) (d:Nat) (v:V):Kn (tm.set d v) ((d,v) :: al):=fun t x hx=>by
 rw [lk_cons] at hx
 rw [tget_set]
 by_cases e:d=t
 ·rw [if_pos e] at hx;rw [if_pos e.symm];exact Option.some.inj hx
 ·rw [if_neg e] at hx;rw [if_neg (Ne.symm e)];exact h t x hx
def SubL (al:AL):AL→Prop
 | []=>True
 | (t,v) :: r=>lk al t=some v∧SubL al r
theorem SubL.get {al:AL}:∀ {al':AL},SubL al al'→∀ t v,lk al' t=some v→lk al t=some v
 | [],_,t,v,h=>by cases h
 | (k,x) :: r,⟨h1,h2⟩,t,v,h=>by
   rw [lk_cons] at h
   by_cases e:k=t
   · rw [if_pos e] at h;subst e;rw [h1];exact h
   · rw [if_neg e] at h;exact h2.get t v h
theorem Kn.sub {tm:TT V} {al al':AL} (h:Kn tm al) (hs:SubL al al'):Kn tm al':=fun t v hv=>h t v (hs.get t v hv)
noncomputable def cV:Value→Option V
 | .int k n=>some (.i k n)
 | .bool x=>some (.b x)
 | .string s=>some (.s s.data.toList)
 | .slice none 0 0=>some .sn
 | .pointer none=>some .p0
 | .nilFunc=>some .nf
 | .nilIface=>some .ni
 | v=>some (ofC v)
theorem cV_eq (v:Value):cV v=some (ofC v):=by
 unfold cV
 split <;> first | rfl | simp only [ofC]
noncomputable def vA (al:AL):Operand→Option V
 | .tmp t=>lk al t
 | .const v=>cV v
 | .func f=>some (.f f [] [])
 | .global _=>none
theorem Kn.ev {tm:TT V} {al:AL} (h:Kn tm al) {x:Operand} {v:V} (hx:vA al x=some v):ev0 tm x=v:=by
 cases x with
 | tmp t=>exact h t v hx
 | const c=>have hx:cV c=some v:=hx;rw [cV_eq] at hx;exact Option.some.inj hx
 | func f=>exact Option.some.inj hx
 | global g=>cases hx
noncomputable def vAs (al:AL) (l:List Operand):Option (List V):=List.rec (some []) (fun x _ ih=>Option.rec none (fun v=>Option.rec none (fun vs=>some (v :: vs)) ih) (vA al x)) l
theorem Kn.evs {tm:TT V} {al:AL} (h:Kn tm al):∀ {l:List Operand} {vs:List V},vAs al l=some vs→lmap (ev0 tm) l=vs
 | [],vs,hx=>Option.some.inj hx
 | x :: l,vs,hx=>by
   have hx:Option.rec (motive:=fun _=>Option (List V)) none (fun v=>Option.rec (motive:=fun _=>Option (List V)) none (fun vs=>some (v :: vs)) (vAs al l)) (vA al x)=some vs:=hx
   cases h1:vA al x with
   | none=>rw [h1] at hx;cases hx
   | some v=>
     rw [h1] at hx
     cases h2:vAs al l with
     | none=>rw [h2] at hx;cases hx
     | some r=>
       rw [h2] at hx
       cases Option.some.inj hx
       show ev0 tm x :: lmap (ev0 tm) l=_
       rw [h.ev h1,h.evs h2]
noncomputable def pAs (al:AL) (l:List (Nat × Operand)):Option (List (Nat × V)):=List.rec (some []) (fun p _ ih=>Prod.rec (fun k x=>Option.rec none (fun v=>Option.rec none (fun vs=>some ((k,v) :: vs)) ih) (vA al x)) p) l
theorem Kn.pevs {tm:TT V} {al:AL} (h:Kn tm al):∀ {l:List (Nat × Operand)} {vs:List (Nat × V)},pAs al l=some vs→pmap (ev0 tm) l=vs
 | [],vs,hx=>Option.some.inj hx
 | (k,x) :: l,vs,hx=>by
   have hx:Option.rec (motive:=fun _=>Option (List (Nat × V))) none (fun v=>Option.rec (motive:=fun _=>Option (List (Nat × V))) none (fun vs=>some ((k,v) :: vs)) (pAs al l)) (vA al x)=some vs:=hx
   cases h1:vA al x with
   | none=>rw [h1] at hx;cases hx
   | some v=>
     rw [h1] at hx
     cases h2:pAs al l with
     | none=>rw [h2] at hx;cases hx
     | some r=>
       rw [h2] at hx
       cases Option.some.inj hx
       show (k,ev0 tm x) :: pmap (ev0 tm) l=_
       rw [h.ev h1,h.pevs h2]
abbrev G:=Nat→Option Blk
def Le (g g':G):Prop:=∀ b x,g b=some x→g' b=some x
theorem Le.refl (g:G):Le g g:=fun _ _ h=>h
theorem Le.trans {a b c:G} (h:Le a b) (k:Le b c):Le a c:=fun _ _ x=>k _ _ (h _ _ x)
inductive Res where
 | blk (b:Nat) (x:Blk)
 | acc (v:V) (s:Nat) (cs:List V) (t:Nat)
abbrev ML:=List Res
def Em (v:V):Prop:=v= .sn∨v= .ez∨∃ b o,v= .sl b o 0 0
def Res.fp:Res→List Nat
 | .blk b _=>[b]
 | .acc (.su b _ _ _) _ _ _=>[b]
 | .acc (.sl b _ (_+1) _) _ _ _=>[b]
 | .acc _ _ _ _=>[]
def Res.ok (h:H):Res→Prop
 | .blk b x=>h.get b=some x
 | .acc v s cs t=>(Em v∧cs=[])∨∃ b n,(v= .su b 0 n s∨∃ k,n=k+1∧v= .sl b 0 n n)∧cs.length=n * s∧h.get b=some (.cells cs t)
def fps (ml:ML):List Nat:=ml.flatMap Res.fp
theorem Qat (r:Res) (ml:ML):fps (r :: ml)=r.fp ++ fps ml:=rfl
theorem Qdk (a b:ML):fps (a ++ b)=fps a ++ fps b:=by simp [fps]
theorem Res.ok_same {h h':H}:∀ {r:Res},(∀ b∈r.fp,h'.get b=h.get b)→r.ok h→r.ok h'
 | .blk b x,hs,hr=>by
   show h'.get b=some x
   rw [hs b (by simp [Res.fp])];exact hr
 | .acc v s cs t,hs,hr=>by
   rcases hr with hr | ⟨b,n,hv,h1,h2⟩
   ·exact .inl hr
   ·exact .inr ⟨b,n,hv,h1,by rw [hs b (by rcases hv with rfl | ⟨k,rfl,rfl⟩ <;> simp [Res.fp])];exact h2⟩
structure Base where
 n:Nat
 fl:Nat
 old:Nat→Option Blk
 vis:G
 W:List Nat
structure St (B:Base) (g:G) (ml:ML) (h:H):Prop where
 wf:∀ b,h.n≤b→h.get b=none
 fl:h.fl=B.fl
 fln:B.fl≤B.n
 le:B.n≤h.n
 old:∀ b,b < B.n→b ∉ B.W→h.get b=B.old b
 sub:∀ b x,g b=some x→h.get b=some x
 vis:∀ b x,g b=some x→b < B.n→B.vis b=some x∨b∈B.W
 own:∀ r∈ml,r.ok h
 nd:(fps ml).Nodup
 fresh:∀ b∈fps ml,g b=none∧B.fl≤b∧b < h.n∧(b < B.n→b∈B.W)
theorem St.lt {B:Base} {g:G} {ml:ML} {h:H} (s:St B g ml h) {b:Nat} {x:Blk} (hx:h.get b=some x):b < h.n:=by
 rcases Nat.lt_or_ge b h.n with h1 | h1
 ·exact h1
 ·rw [s.wf b h1] at hx;cases hx
theorem fps_sub {a b:ML} (h:a.Sublist b):(fps a).Sublist (fps b):=by
 induction h with
 | slnil=>exact List.Sublist.refl _
 | cons x _ ih=>rw [Qat];exact ih.trans (List.sublist_append_right _ _)
 | cons_cons x _ ih=>rw [Qat,Qat];exact ih.append_left _
theorem St.weak {B:Base} {g:G} {ml ml':ML} {h:H} (s:St B g ml h) (hs:ml'.Sublist ml):St B g ml' h:=by
 have hf:(fps ml').Sublist (fps ml):=by
  exact fps_sub hs
 exact {s with own:=fun r hr=>s.own r (hs.subset hr),nd:=s.nd.sublist hf,fresh:=fun b hb=>s.fresh b (hf.subset hb)}
theorem St.new {B:Base} {g:G} {ml:ML} {h:H} (s:St B g ml h) (x:Blk):St B g (.blk h.n x :: ml) (h.new x):=by
 have gt:∀ b,(h.new x).get b=if b=h.n then some x else h.get b:=H.get_new h x
 have hn:(h.new x).n=h.n+1:=rfl
 refine ⟨fun b hb=>?_,s.fl,s.fln,by rw [hn];exact Nat.le_succ_of_le s.le,fun b hb hW=>?_,fun b y hy=>?_,s.vis,fun r hr=>?_,?_,fun b hb=>?_⟩
 ·rw [gt,if_neg (by rw [hn] at hb;omega)];exact s.wf b (by rw [hn] at hb;omega)
 ·rw [gt,if_neg (by have:=s.le;omega)];exact s.old b hb hW
 ·have h1:=s.sub b y hy
  have:=s.lt h1
  rw [gt,if_neg (by omega)];exact h1
 ·rcases List.mem_cons.1 hr with rfl | hr
  ·show (h.new x).get h.n=some x
   rw [gt,if_pos rfl]
  ·exact Res.ok_same (fun b hb=>by
     have:=(s.fresh b (by unfold fps;exact List.mem_flatMap.2 ⟨r,hr,hb⟩)).2.2.1
     rw [gt,if_neg (by omega)]) (s.own r hr)
 ·rw [Qat]
  show (h.n :: fps ml).Nodup
  exact List.nodup_cons.2 ⟨fun hm=>by have:=(s.fresh _ hm).2.2.1;omega,s.nd⟩
 ·rw [Qat] at hb
  rcases List.mem_cons.1 hb with rfl | hb
  ·refine ⟨?_,by rw [←s.fl];have:=s.le;have:=s.fln;have:=s.fl;omega,by rw [hn];omega,fun hlt=>absurd s.le (by omega)⟩
   cases hg:g h.n with
   | none=>rfl
   | some y=>have:=s.lt (s.sub _ _ hg);omega
  ·obtain ⟨h1,h2,h3,h4⟩:=s.fresh b hb
   exact ⟨h1,h2,by rw [hn];omega,h4⟩
theorem fps_perm {a b:ML} (h:a.Perm b):(fps a).Perm (fps b):=List.Perm.flatMap_right _ h
theorem St.perm {B:Base} {g:G} {ml ml':ML} {h:H} (s:St B g ml h) (hp:ml.Perm ml'):St B g ml' h:=
 {s with own:=fun r hr=>s.own r (hp.mem_iff.2 hr),nd:=(fps_perm hp).nodup_iff.1 s.nd,fresh:=fun b hb=>s.fresh b ((fps_perm hp).mem_iff.2 hb)}
noncomputable def Base.at (h:H) (g:G) (ml:ML):Base:=⟨h.n,h.fl,h.get,g,fps ml⟩
theorem mem_fps {ml:ML} {r:Res} {b:Nat} (hr:r∈ml) (hb:b∈r.fp):b∈fps ml:=by unfold fps;exact List.mem_flatMap.2 ⟨r,hr,hb⟩
theorem St.frame {B:Base} {g g':G} {F I I':ML} {h h':H} (s:St B g (F ++ I) h) (k:St (Base.at h g I) g' I' h'):St B g' (F ++ I') h':=by
 have key:∀ b,b < h.n→b ∉ fps I→h'.get b=h.get b:=fun b hb hn=>k.old b hb hn
 have nd:=s.nd
 rw [Qdk,List.nodup_append] at nd
 have gF:∀ b,b∈fps F→b < h.n∧b ∉ fps I:=fun b hb=>
  ⟨(s.fresh b (by rw [Qdk];exact List.mem_append_left _ hb)).2.2.1,fun hi=>nd.2.2 b hb b hi rfl⟩
 refine ⟨k.wf,k.fl.trans s.fl,s.fln,Nat.le_trans s.le k.le,fun b hb hW=>?_,k.sub,fun b x hx hb=>?_,fun r hr=>?_,?_,fun b hb=>?_⟩
 ·have hlt:b < h.n:=Nat.lt_of_lt_of_le hb s.le
  rw [key b hlt fun hi=>hW ((s.fresh b (by rw [Qdk];exact List.mem_append_right _ hi)).2.2.2 hb)]
  exact s.old b hb hW
 ·rcases k.vis b x hx (Nat.lt_of_lt_of_le hb s.le) with h1 | h1
  ·exact s.vis b x h1 hb
  ·exact .inr ((s.fresh b (by rw [Qdk];exact List.mem_append_right _ h1)).2.2.2 hb)
 ·rcases List.mem_append.1 hr with hr | hr
  ·exact Res.ok_same (fun b hb=>key b (gF b (mem_fps hr hb)).1 (gF b (mem_fps hr hb)).2) (s.own r (List.mem_append_left _ hr))
  ·exact k.own r hr
 ·rw [Qdk,List.nodup_append]
  refine ⟨nd.1,k.nd,fun a ha b hb e=>?_⟩
  subst e
  exact (gF a ha).2 ((k.fresh a hb).2.2.2 (gF a ha).1)
 ·rw [Qdk] at hb
  rcases List.mem_append.1 hb with hb | hb
  ·obtain ⟨h1,h2,h3,h4⟩:=s.fresh b (by rw [Qdk];exact List.mem_append_left _ hb)
   refine ⟨?_,h2,Nat.lt_of_lt_of_le h3 k.le,h4⟩
   cases hg:g' b with
   | none=>rfl
   | some x=>
     rcases k.vis b x hg h3 with h5 | h5
     ·exact absurd h5 (by show g b≠some x;rw [h1];simp)
     ·exact absurd h5 (gF b hb).2
  ·obtain ⟨h1,h2,h3,h4⟩:=k.fresh b hb
   refine ⟨h1,by rw [←s.fl];exact h2,h3,fun hlt=>?_⟩
   exact (s.fresh b (by rw [Qdk];exact List.mem_append_right _ (h4 (Nat.lt_of_lt_of_le hlt s.le)))).2.2.2 hlt
theorem St.self {B:Base} {g:G} {ml:ML} {h:H} (s:St B g ml h) (I:ML) (hI:∃ F,ml.Perm (F ++ I)):St (Base.at h g I) g I h:=by
 obtain ⟨F,hp⟩:=hI
 have s:=s.perm hp
 have nd:=s.nd
 rw [Qdk,List.nodup_append] at nd
 refine ⟨s.wf,rfl,by show h.fl≤h.n;rw [s.fl];exact Nat.le_trans s.fln s.le,Nat.le_refl _,fun _ _ _=>rfl,s.sub,fun _ _ hx _=>.inl hx,fun r hr=>s.own r (List.mem_append_right _ hr),nd.2.1,fun b hb=>?_⟩
 obtain ⟨h1,h2,h3,_⟩:=s.fresh b (by rw [Qdk];exact List.mem_append_right _ hb)
 exact ⟨h1,by show h.fl≤b;rw [s.fl];exact h2,h3,fun _=>hb⟩
inductive Rp (r r':Res):ML→ML→Prop
 | hd {l:ML}:Rp r r' (r :: l) (r' :: l)
 | tl {x:Res} {l l':ML}:Rp r r' l l'→Rp r r' (x :: l) (x :: l')
theorem Rp.perm {r r':Res} {l l':ML} (h:Rp r r' l l'):∃ F:ML,l.Perm (F ++ [r])∧l'.Perm (F ++ [r']):=by
 induction h with
 | hd=>rename_i l;exact ⟨l,(List.perm_append_singleton _ _).symm,(List.perm_append_singleton _ _).symm⟩
 | tl _ ih=>rename_i x l l' _;obtain ⟨F,h1,h2⟩:=ih;exact ⟨x :: F,h1.cons x,h2.cons x⟩
theorem St.rp {B:Base} {g g':G} {ml ml':ML} {r r':Res} {h h':H} (s:St B g ml h) (hr:Rp r r' ml ml') (k:St (Base.at h g [r]) g' [r'] h'):St B g' ml' h':=by
 obtain ⟨F,h1,h2⟩:=hr.perm
 exact (St.frame (s.perm h1) k).perm h2.symm
theorem St.rpSelf {B:Base} {g:G} {ml ml':ML} {r r':Res} {h:H} (s:St B g ml h) (hr:Rp r r' ml ml'):St (Base.at h g [r]) g [r] h:=by
 obtain ⟨F,h1,_⟩:=hr.perm
 exact s.self [r] ⟨F,h1⟩
inductive Hb (g:G) (b:Nat) (x:Blk):ML→Prop
 | g {l:ML}:g b=some x→Hb g b x l
 | hd {l:ML}:Hb g b x (.blk b x :: l)
 | tl {r:Res} {l:ML}:Hb g b x l→Hb g b x (r :: l)
 | acc {v:V} {n s t:Nat} {cs:List V} {l:ML}:(v= .su b 0 n s∨∃ k,n=k+1∧v= .sl b 0 n n)→x= .cells cs t→Hb g b x (.acc v s cs t :: l)
theorem Hb.get {B:Base} {g:G} {ml:ML} {h:H} {b:Nat} {x:Blk} (hx:Hb g b x ml) (s:∀ r∈ml,r.ok h) (hs:∀ b x,g b=some x→h.get b=some x):h.get b=some x:=by
 induction hx with
 | g h1=>exact hs _ _ h1
 | hd=>exact s _ List.mem_cons_self
 | tl _ ih=>exact ih fun r hr=>s r (List.mem_cons_of_mem _ hr)
 | acc hv hx=>
   subst hx
   rcases s _ List.mem_cons_self with ⟨e,_⟩ | ⟨b',n',e,_,h2⟩
   ·rcases hv with rfl | ⟨k,rfl,rfl⟩ <;> rcases e with e | e | ⟨_,_,e⟩ <;> cases e
   ·rcases hv with rfl | ⟨k,rfl,rfl⟩ <;> rcases e with e | ⟨_,_,e⟩ <;> cases e <;> exact h2
theorem St.get {B:Base} {g:G} {ml:ML} {h:H} (s:St B g ml h) {b:Nat} {x:Blk} (hx:Hb g b x ml):h.get b=some x:=hx.get (B:=B) s.own s.sub
theorem St.put1 {g:G} {b:Nat} {x y:Blk} {h:H} (s:St (Base.at h g [.blk b x]) g [.blk b x] h):St (Base.at h g [.blk b x]) g [.blk b y] (h.put b y):=by
 have gt:∀ k,(h.put b y).get k=if k=b then some y else h.get k:=H.get_put h b y
 have hb:b∈fps [Res.blk b x]:=by simp [fps,Res.fp]
 obtain ⟨f1,f2,f3,_⟩:=s.fresh b hb
 refine ⟨fun k hk=>?_,s.fl,s.fln,s.le,fun k hk hW=>?_,fun k z hz=>?_,s.vis,fun r hr=>?_,by simp [fps,Res.fp],fun k hk=>?_⟩
 ·rw [gt,if_neg (by have:h.n≤k:=hk;omega)];exact s.wf k hk
 ·rw [gt,if_neg (fun e=>hW (by subst e;exact hb))];rfl
 ·rw [gt,if_neg (fun e=>by subst e;rw [f1] at hz;cases hz)];exact s.sub k z hz
 ·rw [List.mem_singleton.1 hr]
  show (h.put b y).get b=some y
  rw [gt,if_pos rfl]
 ·have:k=b:=by simpa [fps,Res.fp] using hk
  subst this
  exact ⟨f1,f2,f3,fun _=>hb⟩
theorem St.put {B:Base} {g:G} {ml ml':ML} {b:Nat} {x y:Blk} {h:H} (s:St B g ml h) (hr:Rp (.blk b x) (.blk b y) ml ml'):St B g ml' (h.put b y):=s.rp hr (s.rpSelf hr).put1
theorem Rp.mem {r r':Res} {l l':ML} (h:Rp r r' l l'):r∈l:=by
 induction h with
 | hd=>exact List.mem_cons_self
 | tl _ ih=>exact List.mem_cons_of_mem _ ih
theorem St.blkFl {B:Base} {g:G} {ml:ML} {h:H} (s:St B g ml h) {b:Nat} {x:Blk} (hm:Res.blk b x∈ml):h.fl≤b:=by
 rw [s.fl];exact (s.fresh b (mem_fps hm (by simp [Res.fp]))).2.1
def G.add (g:G) (b:Nat) (x:Blk):G:=fun k=>if k=b then some x else g k
theorem Le.add {g:G} {b:Nat} {x:Blk} (h:g b=none):Le g (g.add b x):=fun k y hk=>by
 unfold G.add
 rw [if_neg (fun e=>by subst e;rw [h] at hk;cases hk)];exact hk
theorem St.freeze {B:Base} {g:G} {ml:ML} {h:H} {b:Nat} {x:Blk} (s:St B g (.blk b x :: ml) h):St B (g.add b x) ml h:=by
 have hb:b∈fps (.blk b x :: ml):=by rw [Qat];simp [Res.fp]
 obtain ⟨f1,f2,f3,f4⟩:=s.fresh b hb
 have nd:=s.nd
 rw [Qat] at nd
 have nd:(b :: fps ml).Nodup:=nd
 refine {s with sub:=fun k z hz=>?_,vis:=fun k z hz hk=>?_,own:=fun r hr=>s.own r (List.mem_cons_of_mem _ hr),nd:=(List.nodup_cons.1 nd).2,fresh:=fun k hk=>?_}
 ·unfold G.add at hz
  by_cases e:k=b
  ·rw [if_pos e] at hz;cases hz;subst e;exact s.own _ List.mem_cons_self
  ·rw [if_neg e] at hz;exact s.sub k z hz
 ·unfold G.add at hz
  by_cases e:k=b
  ·subst e;exact .inr (f4 hk)
  ·rw [if_neg e] at hz;exact s.vis k z hz hk
 ·obtain ⟨h1,h2,h3,h4⟩:=s.fresh k (by rw [Qat];exact List.mem_append_right _ hk)
  refine ⟨?_,h2,h3,h4⟩
  unfold G.add
  rw [if_neg (fun (e:k=b)=>(List.nodup_cons.1 nd).1 (by rw [←e];exact hk))];exact h1
theorem St.gnone {B:Base} {g:G} {ml:ML} {h:H} {b:Nat} {x:Blk} (s:St B g (.blk b x :: ml) h):g b=none:=(s.fresh b (by rw [Qat];simp [Res.fp])).1
inductive Tk (r:Res):ML→ML→Prop
 | hd {l:ML}:Tk r (r :: l) l
 | tl {x:Res} {l l':ML}:Tk r l l'→Tk r (x :: l) (x :: l')
theorem Tk.perm {r:Res} {l l':ML} (h:Tk r l l'):l.Perm (r :: l'):=by
 induction h with
 | hd=>exact List.Perm.refl _
 | tl _ ih=>exact (ih.cons _).trans (List.Perm.swap _ _ _)
end Go.Ev
namespace Go.Ev
open Go
set_option linter.unusedVariables false
set_option linter.unusedSimpArgs false
abbrev AQ:=Ex→AL→G→ML→List D→Prop
section
variable (P:Program) (nat:Nats)
def Wc (ro:Option Nat) (N:Nat) (B:Base) (c:Code) (al:AL) (g:G) (ml:ML) (ds:List D) (Q:AQ):Prop:=
 ∀ tm h,Kn tm al→St B g ml h→∃ e tm' ds' h',Run P nat (.code ro N c tm ds h) (.ex e tm' ds' h')∧∃ al' g' ml',Kn tm' al'∧St B g' ml' h'∧Q e al' g' ml' ds'
abbrev OQ:=AL→G→ML→Prop
def Wo (N:Nat) (B:Base) (ops l:List Oper) (al:AL) (g:G) (ml:ML) (Q:OQ):Prop:=
 ∀ tm h,Kn tm al→St B g ml h→∃ n tm' h',Qdm P (ev P nat n) N ops l tm h=some (tm',h')∧∃ al' g' ml',Kn tm' al'∧St B g' ml' h'∧Q al' g' ml'
def Fw (f:V) (args:List V) (g:G) (ml:ML) (Post:G→ML→V→Prop):Prop:=
 ∀ h,St (Base.at h g ml) g ml h→∃ r h' g' ml',Run P nat (.call f args h) (.val r h')∧St (Base.at h g ml) g' ml' h'∧Le g g'∧Post g' ml' r
def Fv (f:V) (args:List V) (g:G) (v:V):Prop:=
 ∀ h,St (Base.at h g []) g [] h→∃ h',Run P nat (.call f args h) (.val v h')∧St (Base.at h g []) g [] h'
end
section
variable {P:Program} {nat:Nats} {ro:Option Nat} {N:Nat} {B:Base}
theorem Fv.fw {f:V} {args:List V} {g:G} {v:V} (h:Fv P nat f args g v):Fw P nat f args g [] fun g' ml' r=>g'=g∧ml'=[]∧r=v:=fun m s=>by
 obtain ⟨h',h1,h2⟩:=h m s
 exact ⟨v,h',g,[],h1,h2,Le.refl _,rfl,rfl,rfl⟩
theorem Fw.fv {f:V} {args:List V} {g:G} {v:V} (h:Fw P nat f args g [] fun g' ml' r=>r=v):Fv P nat f args g v:=fun m s=>by
 obtain ⟨r,h',g',ml',h1,h2,h3,rfl⟩:=h m s
 exact ⟨h',h1,{h2 with sub:=fun b x hx=>h2.sub b x (h3 b x hx),vis:=fun b x hx _=>.inl hx,own:=fun r hr=>(by cases hr),nd:=List.nodup_nil,fresh:=fun b hb=>(by cases hb)}⟩
theorem Fw.mono {f:V} {args:List V} {g:G} {ml:ML} {Q R:G→ML→V→Prop} (h:Fw P nat f args g ml Q) (hq:∀ g' ml' r,Le g g'→Q g' ml' r→R g' ml' r):Fw P nat f args g ml R:=fun m s=>by
 obtain ⟨r,h',g',ml',h1,h2,h3,h4⟩:=h m s
 exact ⟨r,h',g',ml',h1,h2,h3,hq _ _ _ h3 h4⟩
variable {al:AL} {g:G} {ml:ML} {ds:List D} {Q:AQ}
theorem Wc.sub {c:Code} {al':AL} (hs:SubL al al') (h:Wc P nat ro N B c al' g ml ds Q):Wc P nat ro N B c al g ml ds Q:=fun tm m hk s=>h tm m (hk.sub hs) s
theorem Wc.drop {c:Code} {ml':ML} (hs:ml'.Sublist ml) (h:Wc P nat ro N B c al g ml' ds Q):Wc P nat ro N B c al g ml ds Q:=fun tm m hk s=>h tm m hk (s.weak hs)
theorem Wc.skip (h:Q .normal al g ml ds):Wc P nat ro N B .skip al g ml ds Q:=fun tm m hk s=>⟨_,_,_,_,⟨1,rfl⟩,al,g,ml,hk,s,h⟩
theorem Wc.label {i:Nat} (h:Q .normal al g ml ds):Wc P nat ro N B (.label i) al g ml ds Q:=fun tm m hk s=>⟨_,_,_,_,⟨1,rfl⟩,al,g,ml,hk,s,h⟩
theorem Wc.ret (h:Q .ret al g ml ds):Wc P nat ro N B .ret al g ml ds Q:=fun tm m hk s=>⟨_,_,_,_,⟨1,rfl⟩,al,g,ml,hk,s,h⟩
theorem Wc.exit {i:Nat} (h:Q (.exit i) al g ml ds):Wc P nat ro N B (.exit i) al g ml ds Q:=fun tm m hk s=>⟨_,_,_,_,⟨1,rfl⟩,al,g,ml,hk,s,h⟩
def seqQ (P:Program) (nat:Nats) (ro:Option Nat) (N:Nat) (B:Base) (y:Code) (Q:AQ):AQ:=fun e al g ml ds=>match e with
 | .normal=>Wc P nat ro N B y al g ml ds Q
 | .exit i=>Q (.exit i) al g ml ds
 | .ret=>Q .ret al g ml ds
theorem Wc.seq {x y:Code} (h:Wc P nat ro N B x al g ml ds (seqQ P nat ro N B y Q)):Wc P nat ro N B (.seq x y) al g ml ds Q:=fun tm m hk s=>by
 obtain ⟨e,tm1,ds1,h1,r1,al1,g1,ml1,k1,s1,q1⟩:=h tm m hk s
 cases e with
 | normal=>
   obtain ⟨e2,tm2,ds2,h2,r2,q2⟩:=q1 tm1 h1 k1 s1
   obtain ⟨n,a,b⟩:=r1.at2 r2
   exact ⟨e2,tm2,ds2,h2,⟨n+1,by show sSeq (ev P nat n) ro N y (ev P nat n (.code ro N x tm ds m))=_;rw [a];exact b⟩,q2⟩
 | exit i=>
   obtain ⟨n,a⟩:=r1
   exact ⟨.exit i,tm1,ds1,h1,⟨n+1,by show sSeq (ev P nat n) ro N y (ev P nat n (.code ro N x tm ds m))=_;rw [a];rfl⟩,al1,g1,ml1,k1,s1,q1⟩
 | ret=>
   obtain ⟨n,a⟩:=r1
   exact ⟨.ret,tm1,ds1,h1,⟨n+1,by show sSeq (ev P nat n) ro N y (ev P nat n (.code ro N x tm ds m))=_;rw [a];rfl⟩,al1,g1,ml1,k1,s1,q1⟩
theorem Wc.cond {c:Operand} {x y:Code} {b:Bool} (hc:vA al c=some (.b b)) (ht:b=true→Wc P nat ro N B x al g ml ds Q) (hf:b=false→Wc P nat ro N B y al g ml ds Q):Wc P nat ro N B (.cond c x y) al g ml ds Q:=fun tm m hk s=>by
 have e:=hk.ev hc
 cases b with
 | true=>
   obtain ⟨e2,tm2,ds2,h2,⟨n,r2⟩,q2⟩:=ht rfl tm m hk s
   exact ⟨e2,tm2,ds2,h2,⟨n+1,by show sCond (ev P nat n) ro N x y tm ds m (ev0 tm c)=_;rw [e];exact r2⟩,q2⟩
 | false=>
   obtain ⟨e2,tm2,ds2,h2,⟨n,r2⟩,q2⟩:=hf rfl tm m hk s
   exact ⟨e2,tm2,ds2,h2,⟨n+1,by show sCond (ev P nat n) ro N x y tm ds m (ev0 tm c)=_;rw [e];exact r2⟩,q2⟩
theorem Wc.condT {c:Operand} {x y:Code} {b:Bool} (hc:vA al c=some (.b b)) (hb:b=true) (ht:Wc P nat ro N B x al g ml ds Q):Wc P nat ro N B (.cond c x y) al g ml ds Q:=Wc.cond hc (fun _=>ht) (fun h=>by rw [hb] at h;cases h)
theorem Wc.condF {c:Operand} {x y:Code} {b:Bool} (hc:vA al c=some (.b b)) (hb:b=false) (hf:Wc P nat ro N B y al g ml ds Q):Wc P nat ro N B (.cond c x y) al g ml ds Q:=Wc.cond hc (fun h=>by rw [hb] at h;cases h) (fun _=>hf)
def blockQ (id:Nat) (Q:AQ):AQ:=fun e al g ml ds=>match e with
 | .normal=>Q .normal al g ml ds
 | .exit j=>Q (Bool.rec (.exit j) .normal (Nat.beq j id)) al g ml ds
 | .ret=>Q .ret al g ml ds
theorem Wc.block {id:Nat} {c:Code} (h:Wc P nat ro N B c al g ml ds (blockQ id Q)):Wc P nat ro N B (.block id c) al g ml ds Q:=fun tm m hk s=>by
 obtain ⟨e,tm1,ds1,h1,⟨n,a⟩,al1,g1,ml1,k1,s1,q1⟩:=h tm m hk s
 have sh:ev P nat (n+1) (.code ro N (.block id c) tm ds m)=sBlock id (ev P nat n (.code ro N c tm ds m)):=rfl
 rw [a] at sh
 cases e with
 | normal=>exact ⟨.normal,tm1,ds1,h1,⟨n+1,sh⟩,al1,g1,ml1,k1,s1,q1⟩
 | exit j=>exact ⟨_,tm1,ds1,h1,⟨n+1,sh⟩,al1,g1,ml1,k1,s1,q1⟩
 | ret=>exact ⟨.ret,tm1,ds1,h1,⟨n+1,sh⟩,al1,g1,ml1,k1,s1,q1⟩
theorem Wc.scope {c:Code} (h:Wc P nat ro N B c al g ml ds Q):Wc P nat ro N B (.scope c) al g ml ds Q:=fun tm m hk s=>by
 obtain ⟨e,tm1,ds1,h1,⟨n,a⟩,q⟩:=h tm m hk s
 exact ⟨e,tm1,ds1,h1,⟨n+1,a⟩,q⟩
def loopQ {α:Type} (A:α→AL) (M:α→ML) (J:α→G→Prop) (μ:α→Nat) (g0:G) (ds:List D) (x:α) (Q:AQ):AQ:=fun e al g ml ds'=>match e with
 | .normal=>ds'=ds∧∃ x',SubL al (A x')∧(M x').Sublist ml∧Le g0 g∧J x' g∧μ x' < μ x
 | .exit i=>Q (.exit i) al g ml ds'
 | .ret=>Q .ret al g ml ds'
theorem Wc.loop {α:Type} (A:α→AL) (M:α→ML) (J:α→G→Prop) (μ:α→Nat) {c:Code} (x:α) (ha:SubL al (A x)) (hm:(M x).Sublist ml) (hj:J x g)
  (round:∀ x g',Le g g'→J x g'→Wc P nat ro N B c (A x) g' (M x) ds (loopQ A M J μ g' ds x Q)):Wc P nat ro N B (.loop c) al g ml ds Q:=by
 refine Wc.sub ha (Wc.drop hm ?_)
 clear ha hm
 generalize hn:μ x=n
 have main:∀ n x g',Le g g'→J x g'→μ x=n→Wc P nat ro N B (.loop c) (A x) g' (M x) ds Q:=by
  intro n
  induction n using Nat.strongRecOn with
  | ind n ih=>
    intro x g' hg hj hx tm m hk s
    obtain ⟨e,tm1,ds1,h1,r1,al1,g1,ml1,k1,s1,q1⟩:=round x g' hg hj tm m hk s
    cases e with
    | normal=>
      obtain ⟨rfl,x',q2,q3,q4,q5,q6⟩:=q1
      obtain ⟨e2,tm2,ds2,h2,r2,q⟩:=ih (μ x') (by omega) x' g1 (hg.trans q4) q5 rfl tm1 h1 (k1.sub q2) (s1.weak q3)
      obtain ⟨k,a,b⟩:=r1.at2 r2
      exact ⟨e2,tm2,ds2,h2,⟨k+1,by show sLoop (ev P nat k) ro N c (ev P nat k (.code ro N c tm ds1 m))=_;rw [a];exact b⟩,q⟩
    | exit i=>
      obtain ⟨k,a⟩:=r1
      exact ⟨.exit i,tm1,ds1,h1,⟨k+1,by show sLoop (ev P nat k) ro N c (ev P nat k (.code ro N c tm ds m))=_;rw [a];rfl⟩,al1,g1,ml1,k1,s1,q1⟩
    | ret=>
      obtain ⟨k,a⟩:=r1
      exact ⟨.ret,tm1,ds1,h1,⟨k+1,by show sLoop (ev P nat k) ro N c (ev P nat k (.code ro N c tm ds m))=_;rw [a];rfl⟩,al1,g1,ml1,k1,s1,q1⟩
 exact main n x g (Le.refl _) hj hn
theorem Wc.region {id:Nat} {ops:Array Oper} {l:List Oper} (hl:ops.toList=l) (h:Wo P nat N B l l al g ml fun al g ml=>Q .normal al g ml ds):Wc P nat ro N B (.region id ops false) al g ml ds Q:=fun tm m hk s=>by
 subst hl
 obtain ⟨n,tm',h',r,q⟩:=h tm m hk s
 exact ⟨.normal,tm',ds,h',⟨n+1,by show endOps ds (Qdm P (ev P nat n) N ops.toList ops.toList tm m)=_;rw [r];rfl⟩,q⟩
variable {ops l:List Oper} {R:OQ}
theorem Wo.nil (h:R al g ml):Wo P nat N B ops [] al g ml R:=fun tm m hk s=>⟨0,tm,m,rfl,al,g,ml,hk,s,h⟩
def Gd (ops:List Oper) (al:AL):Option (Nat × Bool)→Prop
 | none=>True
 | some (j,want)=>∃ q d,lget ops j=some q∧q.dst=some d∧lk al d=some (.b want)
def Gs (ops:List Oper) (al:AL):Option (Nat × Bool)→Prop
 | none=>False
 | some (j,want)=>∃ q d v,lget ops j=some q∧q.dst=some d∧lk al d=some v∧isB want v=some false
theorem Gd.no:Gd ops al none:=trivial
noncomputable def dAt (ops:List Oper) (j:Nat):Option Nat:=Option.rec none (fun q=>q.dst) (lget ops j)
theorem dAt_some {j d:Nat} (h:dAt ops j=some d):∃ q,lget ops j=some q∧q.dst=some d:=by
 unfold dAt at h
 cases hq:lget ops j with
 | none=>rw [hq] at h;cases h
 | some q=>rw [hq] at h;exact ⟨q,rfl,h⟩
theorem Gd.yes {j d:Nat} {want x:Bool} (h1:dAt ops j=some d) (h2:lk al d=some (.b x)) (h3:x=want):Gd ops al (some (j,want)):=by
 obtain ⟨q,a,b⟩:=dAt_some h1
 exact ⟨q,d,a,b,by rw [h2,h3]⟩
theorem Gs.yes {j d:Nat} {want x:Bool} (h1:dAt ops j=some d) (h2:lk al d=some (.b x)) (h3:x= !want):Gs ops al (some (j,want)):=by
 obtain ⟨q,a,b⟩:=dAt_some h1
 exact ⟨q,d,_,a,b,h2,by rw [h3];show some ((!want) == want)=_;simp⟩
theorem Gs.un {j d:Nat} {want:Bool} (h1:dAt ops j=some d) (h2:lk al d=some (.tup [])):Gs ops al (some (j,want)):=by
 obtain ⟨q,a,b⟩:=dAt_some h1
 exact ⟨q,d,_,a,b,h2,rfl⟩
theorem Gd.want {o:Oper} {tm:TT V} (hk:Kn tm al) (h:Gd ops al o.guard):wantV ops (tget tm) o=some true:=by
 unfold wantV
 cases hg:o.guard with
 | none=>rfl
 | some p=>
   obtain ⟨j,want⟩:=p
   rw [hg] at h
   obtain ⟨q,d,h1,h2,h3⟩:=h
   simp only [h1,h2,hk d _ h3]
   show some (want == want)=_
   simp
theorem Gs.want {o:Oper} {tm:TT V} (hk:Kn tm al) (h:Gs ops al o.guard):wantV ops (tget tm) o=some false:=by
 unfold wantV
 cases hg:o.guard with
 | none=>rw [hg] at h;exact h.elim
 | some p=>
   obtain ⟨j,want⟩:=p
   rw [hg] at h
   obtain ⟨q,d,v,h1,h2,h3,h4⟩:=h
   simp only [h1,h2,hk d _ h3]
   exact h4
theorem runOps_c {go:Task→Option Out} (o:Oper) (l:List Oper) (tm:TT V) (m:H):Qdm P go N ops (o :: l) tm m=runOp P go N ops o (Qdm P go N ops l) tm m:=rfl
theorem Qcl {tm:TT V} {v:V} {d:Nat} (hd:Nat.blt d N=true):putT N tm v (some d)=some (tm.set d v):=by
 show Bool.rec (motive:=fun _=>Option (TT V)) none (some (tm.set d v)) (Nat.blt d N)=_
 rw [hd]
theorem Wo.op {o:Op} {d ty:Nat} {pos:String} {af:Array Edge} {gd:Option (Nat × Bool)} {v:V} {g':G} {ml':ML} (hg:Gd ops al gd) (hd:Nat.blt d N=true) (hc:Qbk o=none)
  (hop:∀ tm h,Kn tm al→St B g ml h→∃ h',opV P h (ev0 tm) o=some (v,h')∧St B g' ml' h')
  (k:Wo P nat N B ops l ((d,v) :: al) g' ml' R):Wo P nat N B ops (⟨some d,o,ty,pos,af,gd⟩ :: l) al g ml R:=fun tm m hk s=>by
 obtain ⟨h',h1,s1⟩:=hop tm m hk s
 obtain ⟨n,tm2,h2,r2,q⟩:=k (tm.set d v) h' (hk.set d v) s1
 refine ⟨n,tm2,h2,?_,q⟩
 rw [runOps_c]
 unfold runOp
 rw [Gd.want (o:=⟨some d,o,ty,pos,af,gd⟩) hk hg]
 simp only [oneO,hc,oneV',h1,Qdp,Qcl hd]
 exact r2
theorem Wo.opN {o:Op} {ty:Nat} {pos:String} {af:Array Edge} {gd:Option (Nat × Bool)} {v:V} {g':G} {ml':ML} (hg:Gd ops al gd) (hc:Qbk o=none)
  (hop:∀ tm h,Kn tm al→St B g ml h→∃ h',opV P h (ev0 tm) o=some (v,h')∧St B g' ml' h')
  (k:Wo P nat N B ops l al g' ml' R):Wo P nat N B ops (⟨none,o,ty,pos,af,gd⟩ :: l) al g ml R:=fun tm m hk s=>by
 obtain ⟨h',h1,s1⟩:=hop tm m hk s
 obtain ⟨n,tm2,h2,r2,q⟩:=k tm h' hk s1
 refine ⟨n,tm2,h2,?_,q⟩
 rw [runOps_c]
 unfold runOp
 rw [Gd.want (o:=⟨none,o,ty,pos,af,gd⟩) hk hg]
 simp only [oneO,hc,oneV',h1,Qdp,putT]
 exact r2
theorem Wo.skip {o:Op} {d ty:Nat} {pos:String} {af:Array Edge} {gd:Option (Nat × Bool)} (hg:Gs ops al gd) (hd:Nat.blt d N=true)
  (k:Wo P nat N B ops l ((d,.tup []) :: al) g ml R):Wo P nat N B ops (⟨some d,o,ty,pos,af,gd⟩ :: l) al g ml R:=fun tm m hk s=>by
 obtain ⟨n,tm2,h2,r2,q⟩:=k (tm.set d (.tup [])) m (hk.set d _) s
 refine ⟨n,tm2,h2,?_,q⟩
 rw [runOps_c]
 unfold runOp
 rw [Gs.want (o:=⟨some d,o,ty,pos,af,gd⟩) hk hg]
 simp only [Qcl hd]
 exact r2
theorem Wo.sub {al':AL} (hs:SubL al al') (h:Wo P nat N B ops l al' g ml R):Wo P nat N B ops l al g ml R:=fun tm m hk s=>h tm m (hk.sub hs) s
theorem Wo.drop {ml':ML} (hs:ml'.Sublist ml) (h:Wo P nat N B ops l al g ml' R):Wo P nat N B ops l al g ml R:=fun tm m hk s=>h tm m hk (s.weak hs)
theorem Wo.callW {f:Operand} {xs:Array Operand} {ats:Array TypeId} {d ty:Nat} {pos:String} {af:Array Edge} {gd:Option (Nat × Bool)} {fv:V} {args:List V} {mr ml1:ML} {Post:G→ML→V→Prop} (hg:Gd ops al gd) (hd:Nat.blt d N=true)
  (hf:vA al f=some fv) (hx:vAs al xs.toList=some args) (hm:ml.Perm (mr ++ ml1)) (hw:Fw P nat fv args g ml1 Post)
  (k:∀ g' ml' r,Le g g'→Post g' ml' r→Wo P nat N B ops l ((d,r) :: al) g' (mr ++ ml') R):
  Wo P nat N B ops (⟨some d,.call ⟨.value f,xs,ats⟩,ty,pos,af,gd⟩ :: l) al g ml R:=fun tm m hk s=>by
 have s':=s.perm hm
 obtain ⟨r,h',g',ml',⟨n1,r1⟩,s1,hle,hp⟩:=hw m (s'.self ml1 ⟨mr,List.Perm.refl _⟩)
 obtain ⟨n2,tm2,h2,r2,q⟩:=k g' ml' r hle hp (tm.set d r) h' (hk.set d r) (s'.frame s1)
 refine ⟨max n1 n2,tm2,h2,?_,q⟩
 rw [runOps_c]
 unfold runOp
 rw [Gd.want (o:=⟨some d,.call ⟨.value f,xs,ats⟩,ty,pos,af,gd⟩) hk hg]
 have e:oneO P (ev P nat (max n1 n2)) m (ev0 tm) (.call ⟨.value f,xs,ats⟩)=some (r,h'):=by
  show valO (ev P nat (max n1 n2) (.call (ev0 tm f) (lmap (ev0 tm) xs.toList) m))=_
  rw [hk.ev hf,hk.evs hx,ev_le (Nat.le_max_left n1 n2) _ _ r1]
  rfl
 simp only [e,Qdp,Qcl hd]
 exact runOps_mono (ev_le (Nat.le_max_right n1 n2)) r2
theorem Wo.call {f:Operand} {xs:Array Operand} {ats:Array TypeId} {d ty:Nat} {pos:String} {af:Array Edge} {gd:Option (Nat × Bool)} {fv:V} {args:List V} {Post:G→ML→V→Prop} (hg:Gd ops al gd) (hd:Nat.blt d N=true)
  (hf:vA al f=some fv) (hx:vAs al xs.toList=some args) (hw:Fw P nat fv args g [] Post)
  (k:∀ g' ml' r,Le g g'→Post g' ml' r→Wo P nat N B ops l ((d,r) :: al) g' (ml' ++ ml) R):
  Wo P nat N B ops (⟨some d,.call ⟨.value f,xs,ats⟩,ty,pos,af,gd⟩ :: l) al g ml R:=
 Wo.callW hg hd hf hx (mr:=ml) (ml1:=[]) (by simp) hw fun g' ml' r h1 h2 tm m hk s=>k g' ml' r h1 h2 tm m hk (s.perm List.perm_append_comm)
theorem Wo.callV {f:Operand} {xs:Array Operand} {ats:Array TypeId} {d ty:Nat} {pos:String} {af:Array Edge} {gd:Option (Nat × Bool)} {fv:V} {args:List V} {v:V} (hg:Gd ops al gd) (hd:Nat.blt d N=true)
  (hf:vA al f=some fv) (hx:vAs al xs.toList=some args) (hw:Fv P nat fv args g v) (k:Wo P nat N B ops l ((d,v) :: al) g ml R):
  Wo P nat N B ops (⟨some d,.call ⟨.value f,xs,ats⟩,ty,pos,af,gd⟩ :: l) al g ml R:=
 Wo.call hg hd hf hx hw.fw fun g' ml' r _ ⟨h1,h2,h3⟩=>by subst h1;subst h2;subst h3;exact k
end
end Go.Ev
namespace Go.Ev
open Go
set_option linter.unusedVariables false
set_option linter.unusedSimpArgs false
section
variable (P:Program)
def OpP (al:AL) (o:Op) (v:V):Prop:=Qbk o=none∧∀ tm h,Kn tm al→opV P h (ev0 tm) o=some (v,h)
def OpM (B:Base) (al:AL) (g:G) (ml:ML) (o:Op) (v:V) (g':G) (ml':ML):Prop:=∀ tm h,Kn tm al→St B g ml h→∃ h',opV P h (ev0 tm) o=some (v,h')∧St B g' ml' h'
noncomputable def loadC (t:TypeId) (cs:List V) (o:Nat):Option V:=match aggO P t with
 | some true=>match szO P t with
   | some n=>if o+n≤llen cs then some (.agg (ltake (ldrop cs o) n)) else none
   | none=>none
 | some false=>lget cs o
 | none=>none
noncomputable def faO (t:TypeId) (f:Nat):Option Nat:=match fieldO P t f with
 | some fl=>match szO P fl.type with
   | some (n+1)=>some fl.offset
   | _=>none
 | none=>none
noncomputable def seO (t:TypeId):Option Nat:=match slO P t with | some e=>szO P e | none=>none
noncomputable def aeO (t:TypeId):Option (Nat × Nat):=match arO P t with | some (n,e)=>(match szO P e with | some s=>some (n,s) | none=>none) | none=>none
noncomputable def fpl (l:List Field):Option (List (Nat × Nat)):=List.rec (some []) (fun f _ ih=>match szO P f.type,ih with | some s,some r=>some ((f.offset,s) :: r) | _,_=>none) l
noncomputable def apl (s:Nat) (n:Nat):List (Nat × Nat):=(List.range n).map fun i=>(i * s,s)
noncomputable def bldO (t:TypeId):Option (List V × List (Nat × Nat)):=match zeroO P t with
 | some (.agg z)=>match P.underlying t with
   | some (.struct fs)=>match fpl P fs.toList with
     | some r=>some (z,r)
     | none=>none
   | some (.array n e)=>match szO P e with
     | some s=>some (z,apl s n)
     | none=>none
   | _=>none
 | _=>none
end
noncomputable def fillP (pl:List (Nat × Nat)):List V→List (Nat × V)→Option (List V)
 | c,[]=>some c
 | c,(i,v) :: r=>match lget pl i with
   | some (o,s)=>if v.any? =false∧llen v.cells=s∧o+s≤llen c then fillP pl (setL c o v.cells) r else none
   | none=>none
section
variable {P:Program} {nat:Nats} {N:Nat} {B:Base} {al:AL} {g g':G} {ml ml':ML} {ops l:List Oper} {R:OQ}
theorem Wo.p {o:Op} {d ty:Nat} {pos:String} {af:Array Edge} {gd:Option (Nat × Bool)} {v:V} (hg:Gd ops al gd) (hd:Nat.blt d N=true) (hp:OpP P al o v)
  (k:Wo P nat N B ops l ((d,v) :: al) g ml R):Wo P nat N B ops (⟨some d,o,ty,pos,af,gd⟩ :: l) al g ml R:=
 Wo.op hg hd hp.1 (fun tm h hk s=>⟨h,hp.2 tm h hk,s⟩) k
theorem OpP.pur {o:Op} {v:V} (hc:Qbk o=none) (h:∀ tm h,Kn tm al→opV P h (ev0 tm) o=pur h (some v)):OpP P al o v:=⟨hc,fun tm m hk=>h tm m hk⟩
theorem OpP.move {x:Operand} {v:V} (hx:vA al x=some v):OpP P al (.move x) v:=⟨rfl,fun tm h hk=>by simp only [opV,hk.ev hx]⟩
theorem OpP.assign {x:Operand} {v:V} (hx:vA al x=some v):OpP P al (.assign x) v:=⟨rfl,fun tm h hk=>by simp only [opV,hk.ev hx]⟩
theorem OpP.pickT {c a b:Operand} {x:Bool} {v:V} (hc:vA al c=some (.b x)) (hx:x=true) (ha:vA al a=some v):OpP P al (.pick c a b) v:=⟨rfl,fun tm h hk=>by simp only [opV,hk.ev hc,hk.ev ha,hx];rfl⟩
theorem OpP.pickF {c a b:Operand} {x:Bool} {v:V} (hc:vA al c=some (.b x)) (hx:x=false) (hb:vA al b=some v):OpP P al (.pick c a b) v:=⟨rfl,fun tm h hk=>by simp only [opV,hk.ev hc,hk.ev hb,hx];rfl⟩
theorem OpP.bin {op:BinOp} {t u:TypeId} {x y:Operand} {k:IntKind} {a b:Int} {v:V} (hx:vA al x=some (.i k a)) (hy:vA al y=some (.i k b)) (hv:iop op k a b=some v):OpP P al (.binOp op t x y u) v:=⟨rfl,fun tm h hk=>by
 simp only [opV,hk.ev hx,hk.ev hy,binV,if_true,hv];rfl⟩
theorem OpP.add {t u:TypeId} {x y:Operand} {a b:Int} (hx:vA al x=some (.i .i64 a)) (hy:vA al y=some (.i .i64 b)) (hr: -9223372036854775808≤a+b∧a+b≤9223372036854775807):OpP P al (.binOp .add t x y u) (.i .i64 (a+b)):=
 .bin hx hy (by unfold iop;simp only [];rw [IntWalk.i64_in _ hr])
theorem OpP.sub {t u:TypeId} {x y:Operand} {a b:Int} (hx:vA al x=some (.i .i64 a)) (hy:vA al y=some (.i .i64 b)) (hr: -9223372036854775808≤a - b∧a - b≤9223372036854775807):OpP P al (.binOp .sub t x y u) (.i .i64 (a - b)):=
 .bin hx hy (by unfold iop;simp only [];rw [IntWalk.i64_in _ hr])
theorem OpP.mul {t u:TypeId} {x y:Operand} {a b:Int} (hx:vA al x=some (.i .i64 a)) (hy:vA al y=some (.i .i64 b)) (hr: -9223372036854775808≤a * b∧a * b≤9223372036854775807):OpP P al (.binOp .mul t x y u) (.i .i64 (a * b)):=
 .bin hx hy (by unfold iop;simp only [];rw [IntWalk.i64_in _ hr])
theorem OpP.inc1 {t u:TypeId} {x y:Operand} {a:Nat} (hx:vA al x=some (.i .i64 (a:Int))) (hy:vA al y=some (.i .i64 1)) (hr:a < 9223372036854775807):OpP P al (.binOp .add t x y u) (.i .i64 ((a+1:Nat):Int)):=by
 rw [show ((a+1:Nat):Int)=(a:Int)+1 from rfl]
 exact .add hx hy (by omega)
theorem OpP.addL {t u:TypeId} {x y:Operand} {a b c:Int} (hx:vA al x=some (.i .i64 a)) (hy:vA al y=some (.i .i64 b)) (hc:a+b=c) (hr: -9223372036854775808≤c∧c≤9223372036854775807):OpP P al (.binOp .add t x y u) (.i .i64 c):=by
 subst hc;exact .add hx hy hr
theorem OpP.subL {t u:TypeId} {x y:Operand} {a b c:Int} (hx:vA al x=some (.i .i64 a)) (hy:vA al y=some (.i .i64 b)) (hc:a - b=c) (hr: -9223372036854775808≤c∧c≤9223372036854775807):OpP P al (.binOp .sub t x y u) (.i .i64 c):=by
 subst hc;exact .sub hx hy hr
theorem OpP.quo {t u:TypeId} {x y:Operand} {a b:Int} (hx:vA al x=some (.i .i64 a)) (hy:vA al y=some (.i .i64 b)) (h0:b≠0) (hr: -9223372036854775808≤a.tdiv b∧a.tdiv b≤9223372036854775807):OpP P al (.binOp .quo t x y u) (.i .i64 (a.tdiv b)):=
 .bin hx hy (by unfold iop;simp only [];rw [if_neg h0,IntWalk.i64_in _ hr])
theorem OpP.rem {t u:TypeId} {x y:Operand} {a b:Int} (hx:vA al x=some (.i .i64 a)) (hy:vA al y=some (.i .i64 b)) (h0:b≠0):OpP P al (.binOp .rem t x y u) (.i .i64 (a.tmod b)):=
 .bin hx hy (by unfold iop;simp only [];rw [if_neg h0])
theorem OpP.binE {op:BinOp} {t u:TypeId} {x y:Operand} {a b v:V} (hx:vA al x=some a) (hy:vA al y=some b) (hv:binV P op t x y a b=some v):OpP P al (.binOp op t x y u) v:=⟨rfl,fun tm h hk=>by
 simp only [opV,hk.ev hx,hk.ev hy,hv];rfl⟩
theorem OpP.not {t:TypeId} {x:Operand} {a:Bool} (hx:vA al x=some (.b a)):OpP P al (.unOp .not t x) (.b (!a)):=⟨rfl,fun tm h hk=>by simp only [opV,hk.ev hx];rfl⟩
theorem OpP.un {op:UnOp} {t:TypeId} {x:Operand} {a v:V} (hx:vA al x=some a) (hv:unV op a=some v):OpP P al (.unOp op t x) v:=⟨rfl,fun tm h hk=>by simp only [opV,hk.ev hx,hv];rfl⟩
theorem OpP.fa {t:TypeId} {x:Operand} {f b o off:Nat} (hx:vA al x=some (.p b o)) (hf:faO P t f=some off):OpP P al (.fieldAddr t x f) (.p b (o+off)):=⟨rfl,fun tm h hk=>by
 unfold faO at hf
 split at hf
 ·rename_i fl hfl
  split at hf
  ·rename_i n hn
   cases hf
   simp only [opV,hk.ev hx,fieldAddrV,hfl,hn];rfl
  ·cases hf
 ·cases hf⟩
theorem OpP.field {t:TypeId} {x:Operand} {f:Nat} {cs:List V} {v:V} {fl:Field} (hx:vA al x=some (.agg cs)) (hf:fieldO P t f=some fl) (hv:partV P fl.type cs fl.offset=some v):OpP P al (.field t x f) v:=⟨rfl,fun tm h hk=>by
 simp only [opV,hk.ev hx,fieldV,hf,hv];rfl⟩
inductive Sl:V→Nat→Nat→Nat→Prop
 | sl {b o n c:Nat}:Sl (.sl b o n c) b o n
 | su {b o n s:Nat}:Sl (.su b o n s) b o n
inductive SlS (s:Nat):V→Nat→Nat→Nat→Prop
 | sl {b o n c:Nat}:n≤c→SlS s (.sl b o n c) b o n
 | su {b o n:Nat}:SlS s (.su b o n s) b o n
theorem SlS.sl1 {s b o n:Nat} {v:V} (h:SlS s v b o n):Sl v b o n:=by
 cases h
 ·exact .sl
 ·exact .su
theorem seO_some {t:TypeId} {s:Nat} (h:seO P t=some s):∃ e,slO P t=some e∧szO P e=some s:=by
 unfold seO at h
 split at h
 ·rename_i e he;exact ⟨e,he,h⟩
 ·cases h
theorem OpP.ix {t:TypeId} {x i:Operand} {v:V} {b o n s:Nat} {k:IntKind} {j:Int} (hx:vA al x=some v) (hs:Sl v b o n) (hi:vA al i=some (.i k j)) (ht:seO P t=some s) (h0:0≤j) (h1:j < n):OpP P al (.indexAddr t x i) (.p b (o+j.toNat * s)):=⟨rfl,fun tm h hk=>by
 obtain ⟨e,h2,h3⟩:=seO_some ht
 cases hs <;> simp only [opV,hk.ev hx,hk.ev hi,Qdo,ixSl,h2,h3,if_pos (And.intro h0 h1)] <;> rfl⟩
theorem OpP.ixn {t:TypeId} {x i:Operand} {v:V} {b o n s:Nat} {k:IntKind} {j:Nat} (hx:vA al x=some v) (hs:Sl v b o n) (hi:vA al i=some (.i k (j:Int))) (ht:seO P t=some s) (h1:j < n):OpP P al (.indexAddr t x i) (.p b (o+j * s)):=by
 have:=OpP.ix (P:=P) (t:=t) hx hs hi ht (by omega) (by omega)
 rwa [Int.toNat_natCast] at this
theorem aeO_some {t:TypeId} {n s:Nat} (h:aeO P t=some (n,s)):∃ e,arO P t=some (n,e)∧szO P e=some s:=by
 unfold aeO at h
 split at h
 ·rename_i m e he
  split at h
  ·rename_i z hz;cases h;exact ⟨e,he,hz⟩
  ·cases h
 ·cases h
theorem OpP.ixa {t:TypeId} {x i:Operand} {b o n s:Nat} {k:IntKind} {j:Nat} (hx:vA al x=some (.p b o)) (hi:vA al i=some (.i k (j:Int))) (ht:aeO P t=some (n,s)) (h1:j < n):OpP P al (.indexAddr t x i) (.p b (o+j * s)):=⟨rfl,fun tm h hk=>by
 obtain ⟨e,h2,h3⟩:=aeO_some ht
 have h4:(0:Int)≤j∧(j:Int) < n:=by omega
 simp only [opV,hk.ev hx,hk.ev hi,Qdo,h2,h3,if_pos h4,Int.toNat_natCast];rfl⟩
theorem OpP.ixv {t e:TypeId} {x i:Operand} {cs:List V} {n s:Nat} {k:IntKind} {j:Nat} {v:V} (hx:vA al x=some (.agg cs)) (hi:vA al i=some (.i k (j:Int))) (ht:arO P t=some (n,e)) (hs:szO P e=some s) (h1:j < n) (hv:partV P e cs (j * s)=some v):OpP P al (.index t x i) v:=⟨rfl,fun tm h hk=>by
 have h4:(0:Int)≤j∧(j:Int) < n:=by omega
 simp only [opV,hk.ev hx,hk.ev hi,indexV,ht,hs,if_pos h4,Int.toNat_natCast,hv];rfl⟩
noncomputable def strO (P:Program) (t:TypeId):Bool:=match P.underlying t with | some .string=>true | _=>false
theorem strO_ok {t:TypeId} (h:strO P t=true):P.underlying t=some .string:=by
 unfold strO at h
 split at h
 ·assumption
 ·cases h
theorem OpP.ixs {t:TypeId} {x i:Operand} {cs:List UInt8} {k:IntKind} {j:Nat} (hx:vA al x=some (.s cs)) (hi:vA al i=some (.i k (j:Int))) (ht:strO P t=true) (h1:j < cs.length):OpP P al (.index t x i) (.i .u8 (cs[j].toNat:Int)):=⟨rfl,fun tm h hk=>by
 have h4:(0:Int)≤j:=by omega
 simp only [opV,hk.ev hx,hk.ev hi,indexV,strO_ok ht,if_pos h4,Int.toNat_natCast,Qbo,List.getElem?_eq_getElem h1];rfl⟩
theorem OpP.ext {x:Operand} {vs:List V} {n:Nat} {v:V} (hx:vA al x=some (.tup vs)) (hv:lget vs n=some v):OpP P al (.extract x n) v:=⟨rfl,fun tm h hk=>by simp only [opV,hk.ev hx,extractV,hv];rfl⟩
theorem OpP.nil {x:Operand} {b o:Nat} (hx:vA al x=some (.p b o)):OpP P al (.nilCheck x) (.p b o):=⟨rfl,fun tm h hk=>by simp only [opV,hk.ev hx,nilV];rfl⟩
theorem OpP.mf {f:FuncId} {a c:Array Operand} {as cs:List V} (ha:vAs al a.toList=some as) (hc:vAs al c.toList=some cs):OpP P al (.makeFunc (.func f) a c) (.f f as cs):=⟨rfl,fun tm h hk=>by simp only [opV,mfV,hk.evs ha,hk.evs hc]⟩
theorem OpP.len {x:Operand} {t:TypeId} {a v:V} {xs:Array Operand} {ts:Array TypeId} (hxs:xs= #[x]) (hts:ts= #[t]) (hx:vA al x=some a) (hv:lenV P t a=some v):OpP P al (.call ⟨.builtin .len,xs,ts⟩) v:=⟨rfl,fun tm h hk=>by
 subst hxs hts
 show biV P h .len [t] [ev0 tm x]=_
 simp only [biV,bi1,hk.ev hx,hv,Ev.pur]⟩
theorem lenV_sl {t:TypeId} {a:V} {b o n s:Nat} (ht:seO P t=some s) (hs:Sl a b o n):lenV P t a=some (.i .i64 n):=by
 obtain ⟨e,h2,_⟩:=seO_some ht
 cases hs <;> simp only [lenV,h2]
theorem lenV_s {t:TypeId} {a:List UInt8} (ht:strO P t=true):lenV P t (.s a)=some (.i .i64 (a.length:Int)):=by simp only [lenV,strO_ok ht,Qas]
theorem OpP.mx {x y:Operand} {xs:Array Operand} {ts:Array TypeId} {t u:TypeId} {k:IntKind} {a b:Int} (hxs:xs= #[x,y]) (hts:ts= #[t,u]) (hx:vA al x=some (.i k a)) (hy:vA al y=some (.i k b)):OpP P al (.call ⟨.builtin .max,xs,ts⟩) (.i k (max a b)):=⟨rfl,fun tm h hk=>by
 subst hxs hts
 show biV P h .max [t,u] [ev0 tm x,ev0 tm y]=_
 simp only [biV,bi2,hk.ev hx,hk.ev hy,max2V]
 simp only [if_true,Ev.pur]
 first | rfl | (congr 3;omega)⟩
theorem OpP.mn {x y:Operand} {xs:Array Operand} {ts:Array TypeId} {t u:TypeId} {k:IntKind} {a b:Int} (hxs:xs= #[x,y]) (hts:ts= #[t,u]) (hx:vA al x=some (.i k a)) (hy:vA al y=some (.i k b)):OpP P al (.call ⟨.builtin .min,xs,ts⟩) (.i k (min a b)):=⟨rfl,fun tm h hk=>by
 subst hxs hts
 show biV P h .min [t,u] [ev0 tm x,ev0 tm y]=_
 simp only [biV,bi2,hk.ev hx,hk.ev hy,min2V]
 simp only [if_true,Ev.pur]
 first | rfl | (congr 3;omega)⟩
theorem fpl_ok {z:Nat→Option (Nat × Nat)}:∀ {fs:List Field} {r:List (Nat × Nat)},fpl P fs=some r→(∀ i,lget r i=match lget fs i with | some f=>(match szO P f.type with | some s=>some (f.offset,s) | none=>none) | none=>none)∧fs.all (fun f=>match szO P f.type with | some _=>true | none=>false)=true
 | [],r,h=>by cases h;exact ⟨fun i=>by cases i <;> rfl,rfl⟩
 | f :: fs,r,h=>by
   have h:(match szO P f.type,fpl P fs with | some s,some r=>some ((f.offset,s) :: r) | _,_=>none)=some r:=h
   split at h
   ·rename_i s q hs hq
    cases h
    obtain ⟨h1,h2⟩:=fpl_ok (z:=z) hq
    refine ⟨fun i=>?_,by simp only [List.all_cons,hs,h2,Bool.and_self]⟩
    cases i with
    | zero=>show some (f.offset,s)=_;simp only [Qbo,List.getElem?_cons_zero,hs]
    | succ i=>show lget q i=_;rw [h1 i];rfl
   ·cases h
theorem fill_eq {pl:List (Nat × Nat)} {f:Nat→Option (Nat × Nat)} (hp:∀ i q,lget pl i=some q→f i=some q):∀ {ps:List (Nat × V)} {c r:List V},fillP pl c ps=some r→fillV f c ps=some r
 | [],c,r,h=>h
 | (i,v) :: ps,c,r,h=>by
   unfold fillP at h
   unfold fillV
   split at h
   · rename_i o s hq
     rw [hp i _ hq]
     simp only []
     split at h
     ·rename_i hc
      rw [if_pos hc]
      exact fill_eq hp h
     ·cases h
   · cases h
theorem OpP.build {t:TypeId} {ps:Array (Nat × Operand)} {qs:List (Nat × V)} {z cs:List V} {pl:List (Nat × Nat)} (hq:pAs al ps.toList=some qs) (ht:bldO P t=some (z,pl)) (hf:fillP pl z qs=some cs):OpP P al (.build t ps) (.agg cs):=⟨rfl,fun tm h hk=>by
 simp only [opV,hk.pevs hq]
 have:buildV P t qs=some (.agg cs):=by
  unfold bldO at ht
  unfold buildV placesO allSz
  split at ht
  ·rename_i zz hz
   rw [hz]
   split at ht
   ·rename_i fs hd
    split at ht
    ·rename_i r hr
     cases ht
     obtain ⟨h1,h2⟩:=fpl_ok (z:=fun _=>none) hr
     simp only [hd,V.any?, V.cells]
     rw [fill_eq (fun i q hi=>by rw [h1 i] at hi;exact hi) hf]
     exact if_pos ⟨trivial,h2⟩
    ·cases ht
   ·rename_i n e hd
    split at ht
    ·rename_i s hs
     cases ht
     simp only [hd,hs,V.any?, V.cells,and_self,if_true]
     rw [fill_eq (fun i q hi=>by
      rw [Qbo] at hi
      unfold apl at hi
      rw [List.getElem?_map] at hi
      cases hr:(List.range n)[i]? with
      | none=>rw [hr] at hi;cases hi
      | some j=>
        rw [hr] at hi
        have:j=i:=by
         obtain ⟨h1,h2⟩:=List.getElem?_eq_some_iff.1 hr
         simpa using h2.symm
        subst this
        exact hi) hf]
    ·cases ht
   ·cases ht
  ·cases ht
 rw [this];rfl⟩
end
end Go.Ev
namespace Go.Ev
open Go
set_option linter.unusedVariables false
set_option linter.unusedSimpArgs false
section
variable (P:Program)
def OpF (al:AL) (o:Op) (f:Nat→V) (x:Blk):Prop:=flB o=true∧∀ tm h,Kn tm al→opV P h (ev0 tm) o=some (f h.n,h.new x)
def OpL (al:AL) (g:G) (ml:ML) (t:TypeId) (x:Operand) (b:Nat) (v:V):Prop:=∃ o cs tt,vA al x=some (.p b o)∧Hb g b (.cells cs tt) ml∧loadC P t cs o=some v
def OpX (B:Base) (al:AL) (g:G) (ml:ML) (o:Op) (mlf:V→ML):Prop:=Qbk o=none∧∀ tm h,Kn tm al→St B g ml h→∃ v h',opV P h (ev0 tm) o=some (v,h')∧St B g (mlf v) h'
def Sc (al:AL) (g:G) (ml:ML) (s:Nat) (xT:TypeId) (y:Operand) (m:Nat) (cs:List V):Prop:=∀ tm h,Kn tm al→(∀ b x,Hb g b x ml→h.get b=some x)→srcV P h s xT (ev0 tm y)=some (m,cs)
noncomputable def zcO (t:TypeId):Option (List V):=match zeroO P t with
 | some z=>if z.any? =true then none else some z.cells
 | none=>none
end
section
variable {P:Program} {nat:Nats} {N:Nat} {B:Base} {al:AL} {g g':G} {ml ml':ML} {ops l:List Oper} {R:OQ}
theorem Wo.f {o:Op} {d ty:Nat} {pos:String} {af:Array Edge} {gd:Option (Nat × Bool)} {f:Nat→V} {x:Blk} (hg:Gd ops al gd) (hd:Nat.blt d N=true) (hp:OpF P al o f x)
  (k:∀ b,Wo P nat N B ops l ((d,f b) :: al) g (.blk b x :: ml) R):Wo P nat N B ops (⟨some d,o,ty,pos,af,gd⟩ :: l) al g ml R:=fun tm m hk s=>by
 obtain ⟨n,tm2,h2,r2,q⟩:=k m.n (tm.set d (f m.n)) (m.new x) (hk.set d _) (s.new x)
 refine ⟨n,tm2,h2,?_,q⟩
 rw [runOps_c]
 unfold runOp
 rw [Gd.want (o:=⟨some d,o,ty,pos,af,gd⟩) hk hg]
 have hc:Qbk o=none:=by cases o <;> first | rfl | (have:=hp.1;cases this)
 simp only [oneO,hc,oneV',hp.2 tm m hk,Qdp,Qcl hd]
 exact r2
theorem zcO_some {t:TypeId} {cs:List V} (h:zcO P t=some cs):∃ z,zeroO P t=some z∧z.any? =false∧z.cells=cs:=by
 unfold zcO at h
 split at h
 ·rename_i z hz
  split at h
  ·cases h
  ·rename_i hn;cases h;exact ⟨z,hz,by simpa using hn,rfl⟩
 ·cases h
theorem OpF.alloc {t:TypeId} {cs:List V} (hz:zcO P t=some cs):OpF P al (.alloc t) (fun b=>.p b 0) (.cells cs t):=⟨rfl,fun tm h hk=>by
 obtain ⟨z,h1,h2,rfl⟩:=zcO_some hz
 simp only [opV,allocV,h1,boxV,h2,Bool.false_eq_true,if_false];rfl⟩
theorem OpF.box {t:TypeId} {x:Operand} {v:V} {cs:List V} (hx:vA al x=some v) (hn:v.any? =false) (hc:v.cells=cs):OpF P al (.box t x) (fun b=>.p b 0) (.cells cs t):=⟨rfl,fun tm h hk=>by
 subst hc
 simp only [opV,hk.ev hx,boxV,hn,Bool.false_eq_true,if_false];rfl⟩
theorem OpF.bs {t e:TypeId} {n s bt:Nat} {ps:Array (Nat × Operand)} {qs:List (Nat × V)} {zs c:List V} (hq:pAs al ps.toList=some qs) (ht:slO P t=some e) (he:elO P e=some (s,bt,zs)) (hn:n * s≤16777216)
  (hf:fillV (fun i=>some (i * s,s)) (rep zs n) qs=some c):OpF P al (.buildSlice t n ps) (fun b=>.sl b 0 n n) (.cells c e):=⟨rfl,fun tm h hk=>by
 simp only [opV,hk.pevs hq,Qcq,ht,he,if_pos hn,hf];rfl⟩
theorem Wo.alloc {t:TypeId} {d ty:Nat} {pos:String} {af:Array Edge} {gd:Option (Nat × Bool)} {cs:List V} (hg:Gd ops al gd) (hd:Nat.blt d N=true) (hz:zcO P t=some cs)
 (k:∀ b,Wo P nat N B ops l ((d,.p b 0) :: al) g (.blk b (.cells cs t) :: ml) R):Wo P nat N B ops (⟨some d,.alloc t,ty,pos,af,gd⟩ :: l) al g ml R:=Wo.f hg hd (OpF.alloc hz) k
theorem Wo.box {t:TypeId} {x:Operand} {d ty:Nat} {pos:String} {af:Array Edge} {gd:Option (Nat × Bool)} {v:V} {cs:List V} (hg:Gd ops al gd) (hd:Nat.blt d N=true) (hx:vA al x=some v) (hn:v.any? =false) (hc:v.cells=cs)
 (k:∀ b,Wo P nat N B ops l ((d,.p b 0) :: al) g (.blk b (.cells cs t) :: ml) R):Wo P nat N B ops (⟨some d,.box t x,ty,pos,af,gd⟩ :: l) al g ml R:=Wo.f hg hd (OpF.box hx hn hc) k
theorem Wo.bs {t e:TypeId} {n s bt:Nat} {ps:Array (Nat × Operand)} {qs:List (Nat × V)} {zs c:List V} {d ty:Nat} {pos:String} {af:Array Edge} {gd:Option (Nat × Bool)} (hg:Gd ops al gd) (hd:Nat.blt d N=true) (hq:pAs al ps.toList=some qs) (ht:slO P t=some e) (he:elO P e=some (s,bt,zs)) (hn:n * s≤16777216)
 (hf:fillV (fun i=>some (i * s,s)) (rep zs n) qs=some c)
 (k:∀ b,Wo P nat N B ops l ((d,.sl b 0 n n) :: al) g (.blk b (.cells c e) :: ml) R):Wo P nat N B ops (⟨some d,.buildSlice t n ps,ty,pos,af,gd⟩ :: l) al g ml R:=Wo.f hg hd (OpF.bs hq ht he hn hf) k
theorem loadV_of {t:TypeId} {b o:Nat} {cs:List V} {tt:Nat} {v:V} {h:H} (hb:h.get b=some (.cells cs tt)) (hv:loadC P t cs o=some v):loadV P h t (.p b o)=some v:=by
 simp only [loadV,hb];exact hv
theorem Wo.ld {t:TypeId} {x:Operand} {d ty:Nat} {pos:String} {af:Array Edge} {gd:Option (Nat × Bool)} {b:Nat} {v:V} (hg:Gd ops al gd) (hd:Nat.blt d N=true) (hp:OpL P al g ml t x b v)
  (k:Wo P nat N B ops l ((d,v) :: al) g ml R):Wo P nat N B ops (⟨some d,.load t x,ty,pos,af,gd⟩ :: l) al g ml R:=
 Wo.op hg hd rfl (fun tm h hk s=>by
  obtain ⟨o,cs,tt,h1,h2,h3⟩:=hp
  exact ⟨h,by simp only [opV,hk.ev h1,loadV_of (s.get h2) h3];rfl,s⟩) k
theorem OpL.s {t:TypeId} {x:Operand} {b o tt:Nat} {cs:List V} {v:V} (hx:vA al x=some (.p b o)) (hb:Hb g b (.cells cs tt) ml) (ha:aggO P t=some false) (hv:lget cs o=some v):OpL P al g ml t x b v:=⟨o,cs,tt,hx,hb,by simp only [loadC,ha];exact hv⟩
theorem OpL.a {t:TypeId} {x:Operand} {b o tt n:Nat} {cs vs:List V} (hx:vA al x=some (.p b o)) (hb:Hb g b (.cells cs tt) ml) (ha:aggO P t=some true) (hs:szO P t=some n) (hl:Nat.ble (o+n) (llen cs)=true) (hv:ltake (ldrop cs o) n=vs):OpL P al g ml t x b (.agg vs):=⟨o,cs,tt,hx,hb,by
 simp only [loadC,ha,hs];rw [if_pos (Nat.le_of_ble_eq_true hl),hv]⟩
def Pt (g:G) (b o:Nat) (cs:List V):Prop:=∃ full tt,g b=some (.cells full tt)∧o+cs.length≤full.length∧(full.drop o).take cs.length=cs
theorem Pt.mono {b o:Nat} {cs:List V} (h:Pt g b o cs) (hl:Le g g'):Pt g' b o cs:=by
 obtain ⟨full,tt,h1,h2⟩:=h
 exact ⟨full,tt,hl _ _ h1,h2⟩
theorem Pt.get {b o:Nat} {cs full:List V} (h2:(full.drop o).take cs.length=cs) {k:Nat} {v:V} (hv:lget cs k=some v):lget full (o+k)=some v:=by
 rw [Qbo] at hv ⊢
 rw [←h2,List.getElem?_take] at hv
 split at hv
 ·rw [List.getElem?_drop] at hv;exact hv
 ·cases hv
theorem Pt.sub {b o:Nat} {cs full:List V} (h2:(full.drop o).take cs.length=cs) {k n:Nat} (hl:k+n≤cs.length):(full.drop (o+k)).take n=(cs.drop k).take n:=by
 rw [←h2,List.drop_take,List.take_take,List.drop_drop,Nat.min_eq_left (by omega)]
theorem OpL.ps {t:TypeId} {x:Operand} {b o o':Nat} {cs:List V} {v:V} (k:Nat) (hx:vA al x=some (.p b o')) (hp:Pt g b o cs) (ho:o'=o+k) (ha:aggO P t=some false) (hv:lget cs k=some v):OpL P al g ml t x b v:=by
 obtain ⟨full,tt,h1,h2,h3⟩:=hp
 subst ho
 exact ⟨_,full,tt,hx,.g h1,by simp only [loadC,ha];exact Pt.get (b:=b) h3 hv⟩
theorem OpL.pa {t:TypeId} {x:Operand} {b o o' n:Nat} {cs vs:List V} (k:Nat) (hx:vA al x=some (.p b o')) (hp:Pt g b o cs) (ho:o'=o+k) (ha:aggO P t=some true) (hs:szO P t=some n) (hl:Nat.ble (k+n) (llen cs)=true) (hv:ltake (ldrop cs k) n=vs):OpL P al g ml t x b (.agg vs):=by
 obtain ⟨full,tt,h1,h2,h3⟩:=hp
 subst ho
 have hl:=Nat.le_of_ble_eq_true hl
 rw [Qas] at hl
 refine ⟨_,full,tt,hx,.g h1,?_⟩
 simp only [loadC,ha,hs]
 rw [if_pos (by rw [Qas];omega),Qbw,Qcj,Pt.sub (b:=b) h3 hl, ←Qcj, ←Qbw,hv]
theorem OpM.store {t : TypeId} {a x : Operand} {b o n tt : Nat} {v : V} {vs cs cs' : List V} (hx : vA al a = some (.p b o)) (hy : vA al x = some v) (hn : v.any? = false) (hc : v.cells = vs) (hs : szO P t = some n) (hv : llen vs = n) (h1 : setL cs o vs = cs') (hr : Rp (.blk b (.cells cs tt)) (.blk b (.cells cs' tt)) ml ml') (hl : Nat.ble (o + n) (llen cs) = true) (ha : Qb vs = true) :
    OpM P B al g ml (.store t a x) (.tup []) g ml' := fun tm h hk s => by
  refine ⟨h.put b (.cells cs' tt), ?_, s.put hr⟩
  subst hc h1
  have hb := s.get (x := .cells cs tt) (b := b) (by
    have := hr.mem
    clear hr
    induction ml with
    | nil => cases this
    | cons r l ih =>
      rcases List.mem_cons.1 this with h | h
      · subst h; exact .hd
      · exact .tl (by clear ih s; induction l with
          | nil => cases h
          | cons r l ih => rcases List.mem_cons.1 h with h | h
                           · subst h; exact .hd
                           · exact .tl (ih (List.mem_cons_of_mem _ h) h)))
  have hfl := s.blkFl hr.mem
  simp only [opV, hk.ev hx, hk.ev hy, storeV, hs, hv, hn, and_self, if_true, putV, hb]
  rw [if_pos ⟨hfl, Nat.le_of_ble_eq_true hl, ha⟩]; rfl
theorem Wo.st {t:TypeId} {a x:Operand} {ty:Nat} {pos:String} {af:Array Edge} {gd:Option (Nat × Bool)} {b o n tt:Nat} {v:V} {vs cs cs':List V} (hg:Gd ops al gd) (hx:vA al a=some (.p b o)) (hy:vA al x=some v) (hn:v.any? =false) (hc:v.cells=vs) (hs:szO P t=some n) (hv:llen vs=n) (h1:setL cs o vs=cs') (hr:Rp (.blk b (.cells cs tt)) (.blk b (.cells cs' tt)) ml ml') (hl:Nat.ble (o+n) (llen cs)=true) (ha:Qb vs=true)
 (k:Wo P nat N B ops l al g ml' R):Wo P nat N B ops (⟨none,.store t a x,ty,pos,af,gd⟩ :: l) al g ml R:=Wo.opN hg rfl (OpM.store hx hy hn hc hs hv h1 hr hl ha) k
theorem Qa {v:V} {vs:List V} (h:oneV v=true) (k:Qb vs=true):Qb (v :: vs)=true:=by
 show Bool.rec (motive:=fun _=>Bool) false (Qb vs) (oneV v)=true
 rw [h];exact k
theorem Sl.one {v:V} {b o n:Nat} (h:Sl v b o n):oneV v=true:=by cases h <;> rfl
theorem Sc.of {s xT:Nat} {y:Operand} {m d o e tt:Nat} {w:V} {dc cs:List V} (hy:vA al y=some w) (hw:Sl w d o m) (he:slO P xT=some e) (hb:Hb g d (.cells dc tt) ml) (hl:o+m * s≤llen dc) (hc:ltake (ldrop dc o) (m * s)=cs):Sc P al g ml s xT y m cs:=fun tm h hk hs=>by
 subst hc
 by_cases hm:m=0
 ·subst hm
  have e0:ltake (ldrop dc o) (0 * s)=[]:=by rw [Qbw,Nat.zero_mul,List.take_zero]
  cases hw <;> simp only [hk.ev hy,srcV,he,if_true,e0]
 ·cases hw <;> simp only [hk.ev hy,srcV,he,if_neg hm,hs _ _ hb,if_pos hl]
theorem Sc.nil {s xT:Nat} {y:Operand} {e:Nat} (hy:vA al y=some .sn) (he:slO P xT=some e):Sc P al g ml s xT y 0 []:=fun tm h hk _=>by simp only [hk.ev hy,srcV,he]
theorem elO_some {e s bt:Nat} {zs:List V} (h:elO P e=some (s,bt,zs)):0 < s:=(elO_ok h).elim fun _ h=>h.elim fun _ E=>E.pos
theorem St.hb {h:H} (s:St B g ml h):∀ b x,Hb g b x ml→h.get b=some x:=fun b x hx=>s.get hx
theorem St.accNew {v v':V} {s e:Nat} {cs cs':List V} {h:H} (st:St (Base.at h g [.acc v s cs e]) g [.acc v s cs e] h) (n:Nat) (hn:cs'.length=n * s) (hv':v'= .su h.n 0 n s):
  St (Base.at h g [.acc v s cs e]) g [.acc v' s cs' e] (h.new (.cells cs' e)):=by
 subst hv'
 have k:=(st.weak (ml':=[]) (List.nil_sublist _)).new (.cells cs' e)
 refine {k with own:=fun r hr=>?_,nd:=k.nd,fresh:=k.fresh}
 rw [List.mem_singleton.1 hr]
 exact .inr ⟨h.n,n,.inl rfl,hn,k.own _ List.mem_cons_self⟩
theorem St.accMove {b:Nat} {n n' s e:Nat} {cs cs':List V} {h:H} (st:St (Base.at h g [.acc (.su b 0 n s) s cs e]) g [.acc (.su b 0 n s) s cs e] h) (hn:cs'.length=n' * s):
  St (Base.at h g [.acc (.su b 0 n s) s cs e]) g [.acc (.su h.n 0 n' s) s cs' e] ((h.put b .gone).new (.cells cs' e)):=by
 have hb:b∈fps [Res.acc (.su b 0 n s) s cs e]:=by simp [fps,Res.fp]
 obtain ⟨f1,f2,f3,f4⟩:=st.fresh b hb
 have gt:∀ k,((h.put b .gone).new (.cells cs' e)).get k=if k=h.n then some (.cells cs' e) else if k=b then some .gone else h.get k:=fun k=>by
  rw [H.get_new,H.get_put];rfl
 have hN:((h.put b .gone).new (.cells cs' e)).n=h.n+1:=rfl
 refine ⟨fun k hk=>?_,st.fl,st.fln,by rw [hN];exact Nat.le_succ_of_le st.le,fun k hk hW=>?_,fun k z hz=>?_,st.vis,fun r hr=>?_,by simp [fps,Res.fp],fun k hk=>?_⟩
 ·rw [hN] at hk
  rw [gt,if_neg (by omega),if_neg (by omega)];exact st.wf k (by omega)
 ·have hk:k < h.n:=hk
  rw [gt,if_neg (by omega),if_neg (fun e=>hW (by subst e;exact hb))];rfl
 ·have h1:=st.sub k z hz
  have:=st.lt h1
  rw [gt,if_neg (by omega),if_neg (fun e=>by subst e;rw [f1] at hz;cases hz)];exact h1
 ·rw [List.mem_singleton.1 hr]
  exact .inr ⟨h.n,n',.inl rfl,hn,by rw [gt,if_pos rfl]⟩
 ·have:k=h.n:=by simpa [fps,Res.fp] using hk
  subst this
  refine ⟨?_,by show h.fl≤h.n;exact Nat.le_trans st.fln (Nat.le_refl _),by rw [hN];omega,fun hlt=>absurd hlt (by show ¬ h.n < h.n;omega)⟩
  cases hg:g h.n with
  | none=>rfl
  | some y=>have:=st.lt (st.sub _ _ hg);omega
theorem OpX.app {t xT ty:TypeId} {x y:Operand} {xs:Array Operand} {ts:Array TypeId} {v:V} {s e bt m:Nat} {zs cs new:List V} {mlf:V→ML} (hxs:xs= #[x,y]) (hts:ts= #[t,xT]) (hx:vA al x=some v) (ht:slO P t=some e) (he:elO P e=some (s,bt,zs)) (hsrc:Sc P al g ml s xT y m new) (hm:0 < m) (hnew:new.length=m * s) (hlen:cs.length+new.length≤1000000 * s)
  (hone:Qb new=true) (hr:∀ v',Rp (.acc v s cs e) (.acc v' s (cs ++ new) e) ml (mlf v')):OpX P B al g ml (.call ⟨.builtin .append,xs,ts⟩) mlf:=⟨rfl,fun tm h hk st=>by
 subst hxs hts
 have hs:=elO_some he
 have hb:∀ k:Nat,(cs ++ new).length=k * s→k≤1000000:=fun k hk=>by
  rw [List.length_append] at hk
  rw [hk] at hlen
  exact Nat.le_of_mul_le_mul_right hlen hs
 have hop:opV P h (ev0 tm) (.call ⟨.builtin .append, #[x,y], #[t,xT]⟩)=app1 h e s m new v:=by
  show biV P h .append [t,xT] [ev0 tm x,ev0 tm y]=_
  simp only [biV,bi2,appendV,ht,he,hsrc tm h hk st.hb,hk.ev hx]
  cases m with
  | zero=>omega
  | succ m=>rfl
 rw [hop]
 have own:=st.own _ (hr v).mem
 rcases own with ⟨hem,rfl⟩ | ⟨b,n,rfl | ⟨kk,hkk,rfl⟩,h1,h2⟩
 ·refine ⟨.su h.n 0 m s,newV h new e,?_,?_⟩
  · have hm6:m≤1000000:=hb m (by simpa using hnew)
    rcases hem with rfl | rfl | ⟨b0,o0,rfl⟩
    ·show (if m≤1000000 then _ else _)=_
     rw [if_pos hm6]
    ·show (if m≤1000000 then _ else _)=_
     rw [if_pos hm6]
    ·show appSl h e s m new b0 o0 0 0=_
     unfold appSl
     rw [if_neg (by omega),if_pos rfl,if_pos hm6]
  · have k:=St.accNew (st.rpSelf (hr v)) (v':=.su h.n 0 m s) m hnew rfl
    exact st.rp (hr _) k
 ·refine ⟨.su h.n 0 (n+m) s,(h.put b .gone).new (.cells (cs ++ new) e),?_,?_⟩
  · show appSu h e s m new b 0 n s=_
    unfold appSu
    rw [h2]
    simp only []
    have hfl:h.fl≤b:=by rw [st.fl];exact (st.fresh b (mem_fps (hr (.su b 0 n s)).mem (by simp [Res.fp]))).2.1
    have hnm:(cs ++ new).length=(n+m) * s:=by rw [List.length_append,h1,hnew,Nat.add_mul]
    rw [if_pos ⟨trivial,trivial,hfl,by rw [Qas,h1];omega,hb (n+m) hnm,hone⟩,Qdj,Qbw,Qcj,List.drop_zero, ←h1,List.take_length]
  · have k:=St.accMove (cs':=cs ++ new) (n':=n+m) (st.rpSelf (hr (.su b 0 n s))) (by rw [List.length_append,h1,hnew,Nat.add_mul])
    exact st.rp (hr _) k
 ·refine ⟨.su h.n 0 (n+m) s,newV h (cs ++ new) e,?_,?_⟩
  · show appSl h e s m new b 0 n n=_
    unfold appSl
    have hnm:(cs ++ new).length=(n+m) * s:=by rw [List.length_append,h1,hnew,Nat.add_mul]
    rw [if_neg (by omega),if_neg (by omega),h2]
    simp only []
    rw [if_pos ⟨by rw [Qas,h1];omega,hb (n+m) hnm⟩,Qdj,Qbw,Qcj,List.drop_zero, ←h1,List.take_length]
  · have k:=St.accNew (cs':=cs ++ new) (st.rpSelf (hr (.sl b 0 n n))) (v':=.su h.n 0 (n+m) s) (n+m) (by rw [List.length_append,h1,hnew,Nat.add_mul]) rfl
    exact st.rp (hr _) k⟩
theorem Wo.x {o:Op} {d ty:Nat} {pos:String} {af:Array Edge} {gd:Option (Nat × Bool)} {mlf:V→ML} (hg:Gd ops al gd) (hd:Nat.blt d N=true) (hp:OpX P B al g ml o mlf)
  (k:∀ v,Wo P nat N B ops l ((d,v) :: al) g (mlf v) R):Wo P nat N B ops (⟨some d,o,ty,pos,af,gd⟩ :: l) al g ml R:=fun tm m hk s=>by
 obtain ⟨v,h',h1,s1⟩:=hp.2 tm m hk s
 obtain ⟨n,tm2,h2,r2,q⟩:=k v (tm.set d v) h' (hk.set d _) s1
 refine ⟨n,tm2,h2,?_,q⟩
 rw [runOps_c]
 unfold runOp
 rw [Gd.want (o:=⟨some d,o,ty,pos,af,gd⟩) hk hg]
 simp only [oneO,hp.1,oneV',h1,Qdp,Qcl hd]
 exact r2
end
end Go.Ev
