import Derived.Test.YtjflgemfeofciaaGreatDoorMX2
import Derived.WideShapes
namespace Go.Ev
open Go
set_option linter.unusedVariables false
set_option linter.unusedSimpArgs false
structure Av (v:V):Prop where
 any:v.any? =false
 cells:v.cells=[v]
 one:oneV v=true
theorem Av.nil:Av .sn:=⟨rfl,rfl,rfl⟩
theorem RS.em {α:Type} {R:G→List V→α→Prop} {s:Nat} {g:G} {v:V} (h:Em v):RS R s g v []:=by
 refine ⟨by simp,?_⟩
 rcases h with rfl | rfl | ⟨b,o,rfl⟩
 ·exact .inl ⟨rfl,rfl⟩
 ·exact .inr (.inl ⟨.inr rfl,rfl⟩)
 ·exact .inr (.inr ⟨b,o,.sl (Nat.le_refl _),fun j x hx=>by simp at hx⟩)
theorem Em.av {v:V} (h:Em v):Av v:=by
 rcases h with rfl | rfl | ⟨_,_,rfl⟩ <;> exact ⟨rfl,rfl,rfl⟩
theorem Av.of {h:H} {v:V} {s t:Nat} {cs:List V} (k:Res.ok h (.acc v s cs t)):Av v:=by
 rcases k with ⟨he,_⟩ | ⟨b,n,rfl | ⟨_,_,rfl⟩,_,_⟩
 ·exact he.av
 ·exact ⟨rfl,rfl,rfl⟩
 ·exact ⟨rfl,rfl,rfl⟩
theorem SlS.ac {v:V} {b n s:Nat} (hv:v= .su b 0 n s∨∃ k,n=k+1∧v= .sl b 0 n n):SlS s v b 0 n:=by
 rcases hv with rfl | ⟨_,_,rfl⟩
 ·exact .su
 ·exact .sl (Nat.le_refl _)
theorem Tk.mem {r:Res} {l l':ML} (h:Tk r l l'):r∈l:=h.perm.mem_iff.2 List.mem_cons_self
section
variable {P:Program} {nat:Nats} {ro:Option Nat} {K N:Nat} {B:Base} {al:AL} {g g0:G} {ml:ML} {ops l:List Oper} {R:OQ} {Q:AQ} {ds:List D}
theorem St.acc0 {h:H} {s t:Nat} (k:St B g ml h):St B g (.acc .sn s [] t :: ml) h:=by
 have e:fps (.acc .sn s [] t :: ml)=fps ml:=by rw [Qat];rfl
 refine {k with own:=fun r hr=>?_,nd:=by rw [e];exact k.nd,fresh:=fun b hb=>k.fresh b (by rw [e] at hb;exact hb)}
 rcases List.mem_cons.1 hr with rfl | hr
 ·exact .inl ⟨.inl rfl,rfl⟩
 ·exact k.own r hr
theorem Wc.acc {c:Code} (s t:Nat) (k:Wc P nat ro N B c al g (.acc .sn s [] t :: ml) ds Q):Wc P nat ro N B c al g ml ds Q:=fun tm m hk st=>k tm m hk st.acc0
theorem Wc.av {c:Code} {v:V} {s t:Nat} {cs:List V} {ml':ML} (hm:Tk (.acc v s cs t) ml ml') (k:Av v→Wc P nat ro N B c al g ml ds Q):Wc P nat ro N B c al g ml ds Q:=fun tm m hk st=>k (Av.of (st.own _ hm.mem)) tm m hk st
theorem Wo.av {v:V} {s t:Nat} {cs:List V} {ml':ML} (hm:Tk (.acc v s cs t) ml ml') (k:Av v→Wo P nat N B ops l al g ml R):Wo P nat N B ops l al g ml R:=fun tm m hk st=>k (Av.of (st.own _ hm.mem)) tm m hk st
theorem Wd.av {v:V} {s t i:Nat} {cs:List V} {ml':ML} {tb:List Ri} {mu:Option Nat} {rest:List Sg} {ls:List (Nat × Nat)} {ps:List Pd2} (hm:Tk (.acc v s cs t) ml ml') (k:Av v→Wd P nat K N B ops l tb i al ((g,ml,mu) :: rest) ls ps R):Wd P nat K N B ops l tb i al ((g,ml,mu) :: rest) ls ps R:=fun n0 tm S hk r=>by
 obtain ⟨p,l2,e,st,_⟩:=r.hs.head
 exact k (Av.of (st.own _ hm.mem)) n0 tm S hk r
theorem FrS.cons {b k:Nat} {ml:ML} {mo:Option Nat} {r:List Sg} (h:∀ c,mo=some c→c≠b) (hk:FrS B b k r):FrS B b (k+1) ((g,ml,mo) :: r):=by
 cases mo with
 | none=>exact hk
 | some c=>exact ⟨fun _ _=>h c rfl,hk⟩
theorem St.ne {h:H} {v:V} {s t b:Nat} {cs:List V} {x:Blk} {ml1 ml2:ML} (k:St B g ml h) (h1:Tk (.acc v s cs t) ml ml1) (h2:Tk (.blk b x) ml1 ml2):∀ c,blkV v=some c→c≠b:=by
 have k1:=(k.perm h1.perm).perm ((h2.perm).cons _)
 intro c hc e
 subst e
 rcases k1.own _ List.mem_cons_self with ⟨he,_⟩ | ⟨b',n,rfl | ⟨kk,rfl,rfl⟩,_,_⟩
 ·rcases he with rfl | rfl | ⟨b0,o0,rfl⟩
  ·cases hc
  ·cases hc
  ·cases hc
 ·cases hc
  have nd:=k1.nd
  rw [Qat,Qat] at nd
  have nd:(c :: c :: fps ml2).Nodup:=nd
  exact (List.nodup_cons.1 nd).1 List.mem_cons_self
 ·cases hc
  have nd:=k1.nd
  rw [Qat,Qat] at nd
  have nd:(c :: c :: fps ml2).Nodup:=nd
  exact (List.nodup_cons.1 nd).1 List.mem_cons_self
theorem Wd.ne {v:V} {s t i b:Nat} {cs:List V} {x:Blk} {ml1 ml2:ML} {tb:List Ri} {mu:Option Nat} {rest:List Sg} {ls:List (Nat × Nat)} {ps:List Pd2} (h1:Tk (.acc v s cs t) ml ml1) (h2:Tk (.blk b x) ml1 ml2) (k:(∀ c,blkV v=some c→c≠b)→Wd P nat K N B ops l tb i al ((g,ml,mu) :: rest) ls ps R):Wd P nat K N B ops l tb i al ((g,ml,mu) :: rest) ls ps R:=fun n0 tm S hk r=>by
 obtain ⟨p,l2,e,st,_⟩:=r.hs.head
 exact k (st.ne h1 h2) n0 tm S hk r
theorem St.neb {h:H} {b b':Nat} {x y:Blk} {ml1 ml2:ML} (k:St B g ml h) (h1:Tk (.blk b x) ml ml1) (h2:Tk (.blk b' y) ml1 ml2):b≠b':=by
 have k1:=(k.perm h1.perm).perm ((h2.perm).cons _)
 intro e
 subst e
 have nd:=k1.nd
 rw [Qat,Qat] at nd
 have nd:(b :: b :: fps ml2).Nodup:=nd
 exact (List.nodup_cons.1 nd).1 List.mem_cons_self
theorem FrL.n {anc c:Nat}:FrL B g ml anc c []:=trivial
theorem FrL.cN {anc c i b:Nat} {r:List (Nat × Nat)} (h:∀ h,St B g ml h→c≠b) (k:FrL B g ml anc c r):FrL B g ml anc c ((i,b) :: r):=⟨.inr h,k⟩
theorem Qci {anc:Nat}:pinF anc []=[]:=rfl
theorem Qck {anc i b:Nat} {x:Blk} {ps q:List Pd2} (h:bit anc i=true) (k:pinF anc ps=q):pinF anc ((i,b,x) :: ps)=(i,b,x) :: q:=by
 show Bool.rec (motive:=fun _=>List Pd2) (pinF anc ps) ((i,b,x) :: pinF anc ps) (bit anc i)=_
 rw [h,k]
theorem Qbh {anc:Nat}:restA anc []=[]:=rfl
theorem Qbg {anc i b:Nat} {x:Blk} {ps q:List Pd2} (h:bit anc i=true) (k:restA anc ps=q):restA anc ((i,b,x) :: ps)=q:=by
 show Bool.rec (motive:=fun _=>List Pd2) ((i,b,x) :: restA anc ps) (restA anc ps) (bit anc i)=_
 rw [h,k]
theorem Qab {anc i b:Nat} {ls:List (Nat × Nat)} (h:bit anc i=true) (k:allA anc ls=true):allA anc ((i,b) :: ls)=true:=by
 show Bool.rec (motive:=fun _=>Bool) false (allA anc ls) (bit anc i)=true
 rw [h,k]
theorem Qch {x y:Operand} {ts:Array TypeId} {v:V} (hx:vA al x=some v):∀ tm,Kn tm al→modO (ev0 tm) (.call ⟨.builtin .append, #[x,y],ts⟩)=blkV v:=fun tm hk=>by
 show blkV (ev0 tm x)=_
 rw [hk.ev hx]
inductive Ra (v:V) (s:Nat) (cs cs':List V) (e:Nat):ML→(V→ML)→Prop
 | hd {l:ML}:Ra v s cs cs' e (.acc v s cs e :: l) fun v'=>.acc v' s cs' e :: l
 | tl {x:Res} {l:ML} {f:V→ML}:Ra v s cs cs' e l f→Ra v s cs cs' e (x :: l) fun v'=>x :: f v'
theorem Ra.rp {v v':V} {s e:Nat} {cs cs':List V} {l:ML} {f:V→ML} (h:Ra v s cs cs' e l f):Rp (.acc v s cs e) (.acc v' s cs' e) l (f v'):=by
 induction h with
 | hd=>exact .hd
 | tl _ ih=>exact .tl ih
theorem OpX.appA {t xT:TypeId} {x y:Operand} {xs:Array Operand} {ts:Array TypeId} {v:V} {s e bt m:Nat} {zs cs new:List V} {mlf:V→ML} (hxs:xs= #[x,y]) (hts:ts= #[t,xT]) (hx:vA al x=some v) (hr:Ra v s cs (cs ++ new) e ml mlf) (ht:slO P t=some e) (he:elO P e=some (s,bt,zs)) (hsrc:Sc P al g ml s xT y m new) (hm:0 < m) (hnew:new.length=m * s) (hlen:cs.length+new.length≤1000000 * s)
 (hone:Qb new=true):OpX P B al g ml (.call ⟨.builtin .append,xs,ts⟩) mlf:=OpX.app (ty:=0) hxs hts hx ht he hsrc hm hnew hlen hone fun v'=>hr.rp
theorem Fw.forget {f:V} {args:List V} {Post Post':G→ML→V→Prop} (h:Fw P nat f args g ml Post) (hp:∀ g' ml' r,Le g g'→Post g' ml' r→∃ ml'',ml''.Sublist ml'∧Post' g' ml'' r):Fw P nat f args g ml Post':=fun m st=>by
 obtain ⟨r,h',g',ml',a,b,c,d⟩:=h m st
 obtain ⟨ml'',e,k⟩:=hp g' ml' r c d
 exact ⟨r,h',g',ml'',a,b.weak e,c,k⟩
theorem flat_at {α:Type} {f:α→List V} {s:Nat} (hf:∀ x,(f x).length=s):∀ {l:List α} {j:Nat} {x:α},l[j]? =some x→((l.flatMap f).drop (j * s)).take s=f x
 | [],j,x,h=>by simp at h
 | y :: l,0,x,h=>by
   simp only [List.getElem?_cons_zero,Option.some.injEq] at h
   subst h
   rw [List.flatMap_cons,Nat.zero_mul,List.drop_zero, ←hf y,List.take_left']
   rfl
 | y :: l,j+1,x,h=>by
   simp only [List.getElem?_cons_succ] at h
   rw [List.flatMap_cons,Nat.add_mul,Nat.one_mul,Nat.add_comm, ←List.drop_drop]
   have:(f y ++ l.flatMap f).drop s=l.flatMap f:=by rw [←hf y,List.drop_left'];rfl
   rw [this]
   exact flat_at hf h
theorem flat_len {α:Type} {f:α→List V} {s:Nat} (hf:∀ x,(f x).length=s):∀ l:List α,(l.flatMap f).length=l.length * s
 | []=>by simp
 | y :: l=>by rw [List.flatMap_cons,List.length_append,hf,flat_len hf l,List.length_cons,Nat.add_mul,Nat.one_mul,Nat.add_comm]
theorem Wc.freezeA {α:Type} {c:Code} {v:V} {s t:Nat} {cs:List V} {ml':ML} (f:α→List V) (Rr:G→List V→α→Prop) (xs:List α) (hm:Tk (.acc v s cs t) ml ml') (hs:0 < s) (hf:∀ x,(f x).length=s) (hc:cs=xs.flatMap f) (hn:xs.length≤9223372036854775807) (hR:∀ g',Le g g'→∀ x∈xs,Rr g' (f x) x)
  (k:∀ g',Le g g'→RS Rr s g' v xs→Wc P nat ro N B c al g' ml' ds Q):Wc P nat ro N B c al g ml ds Q:=fun tm m hk st=>by
 have s1:=st.perm hm.perm
 rcases s1.own _ List.mem_cons_self with ⟨he,e⟩ | ⟨b,n,hv,h1,h2⟩
 ·have hxs:xs=[]:=by
    have:=flat_len hf xs
    rw [←hc,e,List.length_nil] at this
    rcases Nat.eq_zero_or_pos xs.length with h | h
    ·exact List.length_eq_zero_iff.1 h
    ·have:=Nat.mul_pos h hs;omega
  subst hxs
  exact k g (Le.refl _) (RS.em he) tm m hk (s1.weak (.cons _ (List.Sublist.refl _)))
 ·have s2:St B g (.blk b (.cells cs t) :: ml') m:=by
    have e:fps (Res.acc v s cs t :: ml')=fps (.blk b (.cells cs t) :: ml'):=by rw [Qat,Qat];rcases hv with rfl | ⟨_,rfl,rfl⟩ <;> rfl
    refine {s1 with own:=fun r hr=>?_,nd:=e ▸ s1.nd,fresh:=e ▸ s1.fresh}
    rcases List.mem_cons.1 hr with rfl | hr
    ·exact h2
    ·exact s1.own r (List.mem_cons_of_mem _ hr)
  have hle:Le g (g.add b (.cells cs t)):=Le.add s2.gnone
  have hb:(g.add b (.cells cs t)) b=some (.cells cs t):=if_pos rfl
  have hl:cs.length=xs.length * s:=by rw [hc];exact flat_len hf xs
  have en:n=xs.length:=Nat.eq_of_mul_eq_mul_right hs (h1.symm.trans hl)
  subst en
  refine k _ hle ⟨hn,.inr (.inr ⟨b,0,(SlS.ac hv),fun j x hx=>⟨f x,hf x,⟨cs,t,hb,?_,?_⟩,hR _ hle x (List.mem_of_getElem? hx)⟩⟩)⟩ tm m hk s2.freeze
  · have:=(List.getElem?_eq_some_iff.1 hx).1
    have:=Nat.mul_le_mul_right s this
    rw [hf x,hl]
    simp only [Nat.succ_mul] at this
    omega
  · rw [hf x,hc,Nat.zero_add]
    exact flat_at hf hx
end
def IntR (g:G) (cs:List V) (n:Int):Prop:=cs=[.i .i64 n]
theorem IntR.mono:∀ g g' cs x,Le g g'→IntR g cs x→IntR g' cs x:=fun _ _ _ _ _ h=>h
end Go.Ev
namespace Go.Ev
open Go
set_option linter.unusedVariables false
set_option linter.unusedSimpArgs false
section
variable {P:Program} {nat:Nats} {ro:Option Nat} {N:Nat} {B:Base} {al:AL} {g g0:G} {ml ml':ML} {ops l:List Oper} {R:OQ} {d ty:Nat} {pos:String} {af:Array Edge} {gd:Option (Nat × Bool)}
def Fl (v:V) (b n s:Nat):Prop:=v= .sl b 0 n n∨v= .su b 0 n s
theorem Fl.sl {v:V} {b n s:Nat} (h:Fl v b n s):Sl v b 0 n:=by
 rcases h with rfl | rfl
 ·exact .sl
 ·exact .su
theorem Fl.av {v:V} {b n s:Nat} (h:Fl v b n s):Av v:=by
 rcases h with rfl | rfl <;> exact ⟨rfl,rfl,rfl⟩
end
end Go.Ev
namespace Go.Ev
open Go
set_option linter.unusedVariables false
set_option linter.unusedSimpArgs false
section
variable {R:Type} {r:R}
theorem cT {c:Bool} {A B:Option R} (h:c=true) (hF:cond c A B=some r):A=some r:=by rw [h] at hF;exact hF
theorem cF {c:Bool} {A B:Option R} (h:c=false) (hF:cond c A B=some r):B=some r:=by rw [h] at hF;exact hF
theorem bS {α:Type} {o:Option α} {K:α→Option R} (h:o.bind K=some r):∃ y,o=some y∧K y=some r:=by
 cases o with
 | none=>cases h
 | some y=>exact ⟨y,rfl,h⟩
def ck (c:Bool) (A:Option R):Option R:=cond c A none
theorem ckS {c:Bool} {A:Option R} (h:ck c A=some r):c=true∧A=some r:=by
 cases c with
 | true=>exact ⟨rfl,h⟩
 | false=>cases h
theorem sI {a b:R} (h:some a=some b):a=b:=Option.some.inj h
end
def atI {α:Type} (l:List α) (i:Int):Option α:=if 0≤i then l[i.toNat]? else none
section
variable {α:Type}
theorem atI_get {l:List α} {i:Int} {y:α} (h:atI l i=some y):l[i.toNat]? =some y:=by
 unfold atI at h
 split at h
 ·exact h
 ·cases h
theorem atI_lt {l:List α} {i:Int} {y:α} (h:atI l i=some y):0≤i∧i < (l.length:Int):=by
 have h1:=(List.getElem?_eq_some_iff.1 (atI_get h)).1
 unfold atI at h
 split at h
 ·omega
 ·cases h
theorem atN_lt {l:List α} {i:Nat} {y:α} (h:l[i]? =some y):i < l.length:=(List.getElem?_eq_some_iff.1 h).1
theorem getK {l:List α} {k:Nat} (h:(k:Int) < (l.length:Int)):∃ y,l[k]? =some y:=⟨_,List.getElem?_eq_getElem (by omega)⟩
theorem same {o:Option α} {a b:α} (h:o=some a) (k:o=some b):a=b:=Option.some.inj (h.symm.trans k)
inductive Ls (R:G→List V→α→Prop) (s:Nat) (g:G):List V→List α→Prop
 | nil:Ls R s g [] []
 | cons {c cs:List V} {x:α} {xs:List α}:c.length=s→R g c x→Ls R s g cs xs→Ls R s g (c ++ cs) (x :: xs)
variable {R:G→List V→α→Prop} {s:Nat} {g g':G} {cs ds:List V} {xs ys:List α} {v:V}
theorem Ls.mono (hR:∀ g g' cs x,Le g g'→R g cs x→R g' cs x) (h:Ls R s g cs xs) (hl:Le g g'):Ls R s g' cs xs:=by
 induction h with
 | nil=>exact .nil
 | cons a b _ ih=>exact .cons a (hR _ _ _ _ hl b) ih
theorem Ls.app (h:Ls R s g cs xs) (k:Ls R s g ds ys):Ls R s g (cs ++ ds) (xs ++ ys):=by
 induction h with
 | nil=>exact k
 | cons a b _ ih=>rw [List.append_assoc];exact .cons a b ih
theorem Ls.len (h:Ls R s g cs xs):cs.length=xs.length * s:=by
 induction h with
 | nil=>simp
 | cons a b _ ih=>rw [List.length_append,ih,a,List.length_cons,Nat.add_mul,Nat.one_mul,Nat.add_comm]
theorem Ls.at (h:Ls R s g cs xs):∀ {j:Nat} {x:α},xs[j]? =some x→∃ c,c.length=s∧R g c x∧(cs.drop (j * s)).take s=c:=by
 induction h with
 | nil=>intro j x hx;simp at hx
 | @cons c cs y xs a b _ ih=>
   intro j x hx
   cases j with
   | zero=>
     simp only [List.getElem?_cons_zero,Option.some.injEq] at hx
     subst hx
     exact ⟨c,a,b,by rw [Nat.zero_mul,List.drop_zero, ←a,List.take_left'];rfl⟩
   | succ j=>
     simp only [List.getElem?_cons_succ] at hx
     obtain ⟨d,h1,h2,h3⟩:=ih hx
     refine ⟨d,h1,h2,?_⟩
     rw [←h3,Nat.add_mul,Nat.one_mul,Nat.add_comm, ←List.drop_drop]
     have:(c ++ cs).drop s=cs:=by rw [←a,List.drop_left'];rfl
     rw [this]
structure AccR (R:G→List V→α→Prop) (s:Nat) (g:G) (v:V) (cs:List V) (xs:List α):Prop where
 sh:(Em v∧cs=[])∨∃ b n,(v= .su b 0 n s∨∃ k,n=k+1∧v= .sl b 0 n n)∧cs.length=n * s
 ls:Ls R s g cs xs
 le:xs.length≤1000000
theorem AccR.nil:AccR R s g .sn [] []:=⟨.inl ⟨.inl rfl,rfl⟩,.nil,Nat.zero_le _⟩
theorem AccR.em (h:Em v):AccR R s g v [] []:=⟨.inl ⟨h,rfl⟩,.nil,Nat.zero_le _⟩
theorem AccR.mono (h:AccR R s g v cs xs) (hR:∀ g g' cs x,Le g g'→R g cs x→R g' cs x) (hl:Le g g'):AccR R s g' v cs xs:=⟨h.sh,h.ls.mono hR hl,h.le⟩
theorem AccR.av (h:AccR R s g v cs xs):Av v:=by
 rcases h.sh with ⟨he,_⟩ | ⟨b,n,rfl | ⟨_,_,rfl⟩,_⟩
 ·exact he.av
 ·exact ⟨rfl,rfl,rfl⟩
 ·exact ⟨rfl,rfl,rfl⟩
theorem AccR.any (h:AccR R s g v cs xs):v.any? =false:=h.av.any
theorem AccR.cells (h:AccR R s g v cs xs):v.cells=[v]:=h.av.cells
theorem AccR.one (h:AccR R s g v cs xs):oneV v=true:=h.av.one
def AccS (s:Nat) (v:V) (cs:List V):Prop:=(Em v∧cs=[])∨∃ b n,(v= .su b 0 n s∨∃ k,n=k+1∧v= .sl b 0 n n)∧cs.length=n * s
theorem AccS.of {h:H} {v:V} {s t:Nat} {cs:List V} (k:Res.ok h (.acc v s cs t)):AccS s v cs:=by
 rcases k with k | ⟨b,n,h1,h2,_⟩
 ·exact .inl k
 ·exact .inr ⟨b,n,h1,h2⟩
theorem AccR.app {v':V} {new:List V} (h:AccR R s g v cs xs) (hn:Ls R s g new ys) (hl:xs.length+ys.length≤1000000) (hs:AccS s v' (cs ++ new)):AccR R s g v' (cs ++ new) (xs ++ ys):=⟨hs,h.ls.app hn,by rw [List.length_append];exact hl⟩
theorem AccR.room {new:List V} (h:AccR R s g v cs xs) (hn:Ls R s g new ys) (hl:xs.length+ys.length≤1000000):cs.length+new.length≤1000000 * s:=by
 rw [h.ls.len,hn.len, ←Nat.add_mul]
 exact Nat.mul_le_mul_right _ hl
theorem AccR.lit {b n:Nat} (h:Ls R s g cs xs) (hn:xs.length=n) (hl:n≤1000000):AccR R s g (.sl b 0 n n) cs xs:=by
 cases n with
 | zero=>
   have hx:xs=[]:=List.length_eq_zero_iff.1 hn
   subst hx
   have hc:cs=[]:=List.length_eq_zero_iff.1 (by rw [h.len,hn,Nat.zero_mul])
   subst hc
   exact .em (.inr (.inr ⟨b,0,rfl⟩))
 | succ k=>exact ⟨.inr ⟨b,k+1,.inr ⟨k,rfl,rfl⟩,by rw [h.len,hn]⟩,h,by omega⟩
theorem RS.nil:RS R s g .sn []:=⟨by simp,.inl ⟨rfl,rfl⟩⟩
end
section
variable {P:Program} {nat:Nats} {ro:Option Nat} {K N:Nat} {B:Base} {al:AL} {g g0:G} {ml:ML} {ops l:List Oper} {R:OQ} {Q:AQ} {ds:List D}
theorem Wc.as {c:Code} {v:V} {s t:Nat} {cs:List V} {ml':ML} (hm:Tk (.acc v s cs t) ml ml') (k:AccS s v cs→Wc P nat ro N B c al g ml ds Q):Wc P nat ro N B c al g ml ds Q:=fun tm m hk st=>k (AccS.of (st.own _ hm.mem)) tm m hk st
theorem Wo.as {v:V} {s t:Nat} {cs:List V} {ml':ML} (hm:Tk (.acc v s cs t) ml ml') (k:AccS s v cs→Wo P nat N B ops l al g ml R):Wo P nat N B ops l al g ml R:=fun tm m hk st=>k (AccS.of (st.own _ hm.mem)) tm m hk st
theorem Wd.as {v:V} {s t i:Nat} {cs:List V} {ml':ML} {tb:List Ri} {mu:Option Nat} {rest:List Sg} {ls:List (Nat × Nat)} {ps:List Pd2} (hm:Tk (.acc v s cs t) ml ml') (k:AccS s v cs→Wd P nat K N B ops l tb i al ((g,ml,mu) :: rest) ls ps R):Wd P nat K N B ops l tb i al ((g,ml,mu) :: rest) ls ps R:=fun n0 tm S hk r=>by
 obtain ⟨p,l2,e,st,_⟩:=r.hs.head
 exact k (AccS.of (st.own _ hm.mem)) n0 tm S hk r
theorem St.freezeL {α:Type} {Rr:G→List V→α→Prop} {v:V} {s t:Nat} {cs:List V} {xs:List α} {ml':ML} {m:H} (hR:∀ g g' cs x,Le g g'→Rr g cs x→Rr g' cs x) (hm:Tk (.acc v s cs t) ml ml') (hs:0 < s) (hL:AccR Rr s g v cs xs) (st:St B g ml m):∃ g',Le g g'∧RS Rr s g' v xs∧St B g' ml' m:=by
 have s1:=st.perm hm.perm
 have hn:xs.length≤9223372036854775807:=Nat.le_trans hL.le (by decide)
 rcases s1.own _ List.mem_cons_self with ⟨he,e⟩ | ⟨b,n,hv,h1,h2⟩
 ·have hxs:xs=[]:=by
   have:=hL.ls.len
   rw [e,List.length_nil] at this
   rcases Nat.eq_zero_or_pos xs.length with h | h
   ·exact List.length_eq_zero_iff.1 h
   ·have:=Nat.mul_pos h hs;omega
  subst hxs
  exact ⟨g,Le.refl _,RS.em he,s1.weak (.cons _ (List.Sublist.refl _))⟩
 ·have s2:St B g (.blk b (.cells cs t) :: ml') m:=by
   have e:fps (Res.acc v s cs t :: ml')=fps (.blk b (.cells cs t) :: ml'):=by rw [Qat,Qat];rcases hv with rfl | ⟨_,rfl,rfl⟩ <;> rfl
   refine {s1 with own:=fun r hr=>?_,nd:=e ▸ s1.nd,fresh:=e ▸ s1.fresh}
   rcases List.mem_cons.1 hr with rfl | hr
   ·exact h2
   ·exact s1.own r (List.mem_cons_of_mem _ hr)
  have hle:Le g (g.add b (.cells cs t)):=Le.add s2.gnone
  have hb:(g.add b (.cells cs t)) b=some (.cells cs t):=if_pos rfl
  have hl:cs.length=xs.length * s:=hL.ls.len
  have en:n=xs.length:=Nat.eq_of_mul_eq_mul_right hs (h1.symm.trans hl)
  subst en
  refine ⟨_,hle,⟨hn,.inr (.inr ⟨b,0,(SlS.ac hv),fun j x hx=>?_⟩)⟩,s2.freeze⟩
  obtain ⟨c,c1,c2,c3⟩:=hL.ls.at hx
  refine ⟨c,c1,⟨cs,t,hb,?_,?_⟩,hR _ _ _ _ hle c2⟩
  ·have:=(List.getElem?_eq_some_iff.1 hx).1
   have:=Nat.mul_le_mul_right s this
   rw [c1,hl]
   simp only [Nat.succ_mul] at this
   omega
  ·rw [c1,Nat.zero_add];exact c3
theorem OpL.as {t:TypeId} {x:Operand} {b o' j s tt:Nat} {full c:List V} {v:V} (k:Nat) (hx:vA al x=some (.p b o')) (hb:Hb g b (.cells full tt) ml) (ho:o'=j * s+k) (hc:(full.drop (j * s)).take s=c) (hl:c.length=s) (ha:aggO P t=some false) (hv:lget c k=some v):OpL P al g ml t x b v:=by
 subst ho
 refine .s hx hb ha (Pt.get (b:=b) (cs:=c) ?_ hv)
 rw [hl];exact hc
theorem AccR.cellsLe {α:Type} {S:G→List V→α→Prop} {s:Nat} {v:V} {cs:List V} {xs:List α} {j:Nat} {y:α} (h:AccR S s g v cs xs) (hy:xs[j]? =some y):j * s+s≤cs.length:=by
 have:=(List.getElem?_eq_some_iff.1 hy).1
 have:=Nat.mul_le_mul_right s this
 rw [h.ls.len]
 simp only [Nat.succ_mul] at this
 omega
theorem AccR.ix {α:Type} {S:G→List V→α→Prop} {s:Nat} {v:V} {cs:List V} {xs:List α} {j:Nat} {y:α} (h:AccR S s g v cs xs) (hs:0 < s) (hy:xs[j]? =some y):∃ b n c,(v= .su b 0 n s∨∃ k,n=k+1∧v= .sl b 0 n n)∧j < n∧c.length=s∧S g c y∧(cs.drop (j * s)).take s=c:=by
 have hj:=(List.getElem?_eq_some_iff.1 hy).1
 have hl:=h.ls.len
 obtain ⟨c,c1,c2,c3⟩:=h.ls.at hy
 rcases h.sh with ⟨_,rfl⟩ | ⟨b,n,hv,h1⟩
 ·rw [List.length_nil] at hl
  have:=Nat.mul_pos (show 0 < xs.length by omega) hs
  omega
 ·have en:n=xs.length:=Nat.eq_of_mul_eq_mul_right hs (h1.symm.trans hl)
  exact ⟨b,n,c,hv,by omega,c1,c2,c3⟩
theorem Wc.al0 {c:Code} (al:AL) (h:Wc P nat ro N B c al g ml ds Q):Wc P nat ro N B c al g ml ds Q:=h
theorem Fw.drop {f:V} {args:List V} {Post:G→V→Prop} (h:Fw P nat f args g ml fun g' _ r=>Post g' r):Fw P nat f args g ml fun g' ml' r=>ml'=[]∧Post g' r:=
 h.forget fun g' ml' r _ hp=>⟨[],List.nil_sublist _,rfl,hp⟩
end
theorem IntR.any {g:G} {cs:List V} {n:Int} (h:IntR g cs n):cs=[.i .i64 n]:=h
def BoolR (g:G) (cs:List V) (n:Bool):Prop:=cs=[.b n]
theorem BoolR.mono:∀ g g' cs x,Le g g'→BoolR g cs x→BoolR g' cs x:=fun _ _ _ _ _ h=>h
def StrR (g:G) (cs:List V) (n:List UInt8):Prop:=cs=[.s n]
theorem StrR.mono:∀ g g' cs x,Le g g'→StrR g cs x→StrR g' cs x:=fun _ _ _ _ _ h=>h
theorem Res.fp_some {h:H} {r:Res} (hr:r.ok h) {b:Nat} (hb:b∈r.fp):∃ x,h.get b=some x:=by
 cases r with
 | blk c x=>
   have e:b=c:=by simpa [Res.fp] using hb
   subst e;exact ⟨x,hr⟩
 | acc v s cs t=>
   rcases hr with ⟨he,_⟩ | ⟨c,n,hv,_,h2⟩
   ·rcases he with rfl | rfl | ⟨_,_,rfl⟩ <;> simp [Res.fp] at hb
   ·have e:b=c:=by rcases hv with rfl | ⟨_,rfl,rfl⟩ <;> simpa [Res.fp] using hb
    subst e;exact ⟨_,h2⟩
section
variable {P:Program} {nat:Nats} {K N:Nat} {B:Base} {al:AL} {ops l:List Oper} {a:Ri} {tb:List Ri} {i:Nat} {ls:List (Nat × Nat)} {ps:List Pd2} {R:OQ} {d ty:Nat} {pos:String} {af:Array Edge} {gd:Option (Nat × Bool)}
theorem Wd.callT {f:Operand} {xs:Array Operand} {ats:Array TypeId} {g:G} {ml mr:ML} {mu:Option Nat} {rest:List Sg} {pin pout:List Pd2} {fv:V} {args:List V} {r1:Res} {Post:G→ML→V→Prop} (hg:Gd ops al gd) (hd:Nat.blt d N=true) (h1:pinF a.anc ps=pin) (h2:restA a.anc ps=pout)
  (hf:vA al f=some fv) (hx:vAs al xs.toList=some args) (hfull:a.full=true) (hm:Tk r1 (mlA pin ml) mr) (hw:Fw P nat fv args g [r1] Post)
  (k:∀ g' ml' r,Le g g'→Post g' ml' r→Wd P nat K N B ops l tb (i+1) ((d,r) :: al) ((g',ml' ++ mr,none) :: (g,ml,mu) :: rest) ls pout R):
  Wd P nat K N B ops (⟨some d,.call ⟨.value f,xs,ats⟩,ty,pos,af,gd⟩ :: l) (a :: tb) i al ((g,ml,mu) :: rest) ls ps R:=fun n0 tm S hk r=>by
 obtain ⟨⟨m,nu⟩,l2,e,hst⟩:=r.hs.head
 obtain ⟨s1,sn,sfl,sf1,sf2,sin,spp⟩:=mergeA_st r.next e hst.1 a.anc h1 h2
 generalize hM:Ev.mergeA a.anc ps m=M at s1 sn sfl sf1 sf2
 have sp:St B g (mr ++ [r1]) M:=s1.perm (hm.perm.trans (List.perm_append_singleton _ _).symm)
 have s0:St (Base.at M g [r1]) g [r1] M:=sp.self [r1] ⟨mr,List.Perm.refl _⟩
 obtain ⟨v,h',g',ml',⟨n1,r1r⟩,k1,k2,k3⟩:=hw M s0
 have q1m:∀ n2,n1≤n2→addH ⟨S.hs,S.ls,restA a.anc S.ps⟩ none (valO (ev P nat n2 (.call fv args M)))=some (v,⟨(h',none) :: S.hs,S.ls,restA a.anc S.ps⟩):=fun n2 hn=>by rw [ev_le hn _ _ r1r];rfl
 have q2:St B g' (ml' ++ mr) h':=(St.frame (F:=mr) (I:=[r1]) sp k1).perm List.perm_append_comm
 have kp:Kp M h':=⟨k1.le,fun b hb hn=>(k1.old b hb (by
  intro hW
  have hW:b∈fps [r1]:=hW
  have hb2:b∈r1.fp:=by simpa [fps] using hW
  obtain ⟨x,hx2⟩:=Res.fp_some (s0.own r1 List.mem_cons_self) hb2
  rw [hn] at hx2;cases hx2)).trans hn⟩
 have rs:Rs B K n0 l (i+1) ((g',ml' ++ mr,none) :: (g,ml,mu) :: rest) ls pout ⟨(h',none) :: S.hs,S.ls,restA a.anc S.ps⟩:=by
  refine ⟨r.eL,by show restA a.anc S.ps=pout;rw [r.eP,h2],.cons ⟨q2,rfl⟩ r.hs,fun h3 m3 r3 e3=>?_,fun p hp=>r.next.pb p (sin p hp),spp,r.kc _,r.kf,fun h3 m3 r3 e3=>by cases e3;exact Nat.le_trans (r.kb m nu l2 e) (sn ▸ kp.1)⟩
  cases e3
  exact ⟨fun k o2 a1 a2=>(sf1 k o2 a1 a2).kp kp,fun p hp=>(sf2 p hp).kp kp⟩
 obtain ⟨n2,tm',S',r2,q⟩:=k g' ml' v k2 k3 n0 (tm.set d v) _ (hk.set d v) rs
 refine ⟨max n1 n2,tm',S',?_,q⟩
 rw [Qcf]
 unfold Qcx
 rw [e]
 have hw:=Gd.want (o:=⟨some d,.call ⟨.value f,xs,ats⟩,ty,pos,af,gd⟩) hk hg
 show (match wantV ops (tget tm) ⟨some d,.call ⟨.value f,xs,ats⟩,ty,pos,af,gd⟩ with | some true=>_ | some false=>_ | none=>none)=_
 rw [hw]
 have hone:oneD P (ev P nat (max n1 n2)) n0 (ev0 tm) (rowT ⟨some d,.call ⟨.value f,xs,ats⟩,ty,pos,af,gd⟩ a i) S m=some (v,⟨(h',none) :: S.hs,S.ls,restA a.anc S.ps⟩):=by
  show effD P _ (ev0 tm) _ ⟨S.hs,S.ls,restA a.anc S.ps⟩ (Ev.mergeA a.anc S.ps m) (some (f,xs.toList))=_
  unfold effD
  rw [r.eP,hM]
  show (match a.full with
    | true=>addH ⟨S.hs,S.ls,restA a.anc ps⟩ none (valO (ev P nat _ (.call (ev0 tm f) (lmap (ev0 tm) xs.toList) M)))
    | false=>addH ⟨S.hs,S.ls,restA a.anc ps⟩ none (lower M.fl (valO (ev P nat _ (.call (ev0 tm f) (lmap (ev0 tm) xs.toList) (raise (kR ⟨S.hs,S.ls,restA a.anc S.ps⟩ (rowT ⟨some d,.call ⟨.value f,xs,ats⟩,ty,pos,af,gd⟩ a i) M) M))))))=_
  rw [hfull,hk.ev hf,hk.evs hx, ←r.eP]
  exact q1m _ (Nat.le_max_left n1 n2)
 simp only [hone]
 show (match putT N tm v (some d) with | some tm'=>_ | none=>none)=_
 rw [Qcl hd]
 exact Qcv (ev_le (Nat.le_max_right n1 n2)) r2
theorem hK1 {K b:Nat} {x:Blk} (h:K≤b):∀ c∈(Res.blk b x).fp,K≤c:=fun c hc=>by
 rw [List.mem_singleton.1 (show c∈[b] from hc)];exact h
theorem Wd.callH {f:Operand} {xs:Array Operand} {ats:Array TypeId} {g:G} {ml mr:ML} {mu:Option Nat} {rest:List Sg} {pin pout:List Pd2} {fv:V} {args:List V} {r1:Res} {Post:G→ML→V→Prop} (hg:Gd ops al gd) (hd:Nat.blt d N=true) (h1:pinF a.anc ps=pin) (h2:restA a.anc ps=pout)
  (hf:vA al f=some fv) (hx:vAs al xs.toList=some args) (hnf:a.full=false) (hh:a.half=true) (hm:Tk r1 (mlA pin ml) mr) (hK:∀ b∈r1.fp,K≤b) (hw:Fw P nat fv args g [r1] Post)
  (k:∀ g' ml' r,Le g g'→Post g' ml' r→Wd P nat K N B ops l tb (i+1) ((d,r) :: al) ((g',ml' ++ mr,none) :: (g,ml,mu) :: rest) ls pout R):
  Wd P nat K N B ops (⟨some d,.call ⟨.value f,xs,ats⟩,ty,pos,af,gd⟩ :: l) (a :: tb) i al ((g,ml,mu) :: rest) ls ps R:=fun n0 tm S hk r=>by
 obtain ⟨⟨m,nu⟩,l2,e,hst⟩:=r.hs.head
 obtain ⟨s1,sn,sfl,sf1,sf2,sin,spp⟩:=mergeA_st r.next e hst.1 a.anc h1 h2
 generalize hM:Ev.mergeA a.anc ps m=M at s1 sn sfl sf1 sf2
 have sp:St B g (mr ++ [r1]) M:=s1.perm (hm.perm.trans (List.perm_append_singleton _ _).symm)
 have s0:St (Base.at M g [r1]) g [r1] M:=sp.self [r1] ⟨mr,List.Perm.refl _⟩
 have kM:K≤M.n:=by rw [sn];exact r.kb m nu l2 e
 have hkf:M.fl≤K:=by rw [sfl,hst.1.fl];exact r.kf
 have hok:∀ (r:Res) (h:H) (fl:Nat),r.ok h→r.ok ⟨h.t,h.n,fl⟩:=fun r h fl hr=>by cases r <;> exact hr
 have s00:St (Base.at (raise K M) g [r1]) g [r1] (raise K M):=⟨s0.wf,rfl,kM,Nat.le_refl _,fun _ _ _=>rfl,s0.sub,fun _ _ hx _=>.inl hx,fun r hr=>hok r M K (s0.own r hr),s0.nd,fun b hb=>by
  obtain ⟨f1,f2,f3,f4⟩:=s0.fresh b hb
  exact ⟨f1,hK b (by simpa [fps] using hb),f3,f4⟩⟩
 obtain ⟨v,h',g',ml',⟨n1,r1r⟩,k1,k2,k3⟩:=hw (raise K M) s00
 have kl:St (Base.at M g [r1]) g' ml' ⟨h'.t,h'.n,M.fl⟩:=⟨k1.wf,rfl,s0.fln,k1.le,k1.old,k1.sub,k1.vis,fun r hr=>hok r h' M.fl (k1.own r hr),k1.nd,fun b hb=>by
  obtain ⟨f1,f2,f3,f4⟩:=k1.fresh b hb
  exact ⟨f1,Nat.le_trans hkf f2,f3,f4⟩⟩
 have q1m:∀ n2,n1≤n2→addH ⟨S.hs,S.ls,restA a.anc S.ps⟩ none (lower M.fl (valO (ev P nat n2 (.call fv args (raise K M)))))=some (v,⟨(⟨h'.t,h'.n,M.fl⟩,none) :: S.hs,S.ls,restA a.anc S.ps⟩):=fun n2 hn=>by rw [ev_le hn _ _ r1r];rfl
 have q2:St B g' (ml' ++ mr) ⟨h'.t,h'.n,M.fl⟩:=(St.frame (F:=mr) (I:=[r1]) sp kl).perm List.perm_append_comm
 have kp:Kp M ⟨h'.t,h'.n,M.fl⟩:=⟨k1.le,fun b hb hn=>(k1.old b hb (by
  intro hW
  have hW:b∈fps [r1]:=hW
  have hb2:b∈r1.fp:=by simpa [fps] using hW
  obtain ⟨x,hx2⟩:=Res.fp_some (s0.own r1 List.mem_cons_self) hb2
  rw [hn] at hx2;cases hx2)).trans hn⟩
 have rs:Rs B K n0 l (i+1) ((g',ml' ++ mr,none) :: (g,ml,mu) :: rest) ls pout ⟨(⟨h'.t,h'.n,M.fl⟩,none) :: S.hs,S.ls,restA a.anc S.ps⟩:=by
  refine ⟨r.eL,by show restA a.anc S.ps=pout;rw [r.eP,h2],.cons ⟨q2,rfl⟩ r.hs,fun h3 m3 r3 e3=>?_,fun p hp=>r.next.pb p (sin p hp),spp,r.kc _,r.kf,fun h3 m3 r3 e3=>by cases e3;exact Nat.le_trans (r.kb m nu l2 e) (sn ▸ kp.1)⟩
  cases e3
  exact ⟨fun k o2 a1 a2=>(sf1 k o2 a1 a2).kp kp,fun p hp=>(sf2 p hp).kp kp⟩
 obtain ⟨n2,tm',S',r2,q⟩:=k g' ml' v k2 k3 n0 (tm.set d v) _ (hk.set d v) rs
 refine ⟨max n1 n2,tm',S',?_,q⟩
 rw [Qcf]
 unfold Qcx
 rw [e]
 have hw:=Gd.want (o:=⟨some d,.call ⟨.value f,xs,ats⟩,ty,pos,af,gd⟩) hk hg
 show (match wantV ops (tget tm) ⟨some d,.call ⟨.value f,xs,ats⟩,ty,pos,af,gd⟩ with | some true=>_ | some false=>_ | none=>none)=_
 rw [hw]
 have hone:oneD P (ev P nat (max n1 n2)) n0 (ev0 tm) (rowT ⟨some d,.call ⟨.value f,xs,ats⟩,ty,pos,af,gd⟩ a i) S m=some (v,⟨(⟨h'.t,h'.n,M.fl⟩,none) :: S.hs,S.ls,restA a.anc S.ps⟩):=by
  show effD P _ (ev0 tm) _ ⟨S.hs,S.ls,restA a.anc S.ps⟩ (Ev.mergeA a.anc S.ps m) (some (f,xs.toList))=_
  unfold effD
  rw [r.eP,hM]
  show (match a.full with
     | true=>addH ⟨S.hs,S.ls,restA a.anc ps⟩ none (valO (ev P nat _ (.call (ev0 tm f) (lmap (ev0 tm) xs.toList) M)))
     | false=>addH ⟨S.hs,S.ls,restA a.anc ps⟩ none (lower M.fl (valO (ev P nat _ (.call (ev0 tm f) (lmap (ev0 tm) xs.toList) (raise (kR ⟨S.hs,S.ls,restA a.anc S.ps⟩ (rowT ⟨some d,.call ⟨.value f,xs,ats⟩,ty,pos,af,gd⟩ a i) M) M))))))=_
  have hkR:kR ⟨S.hs,S.ls,restA a.anc S.ps⟩ (rowT ⟨some d,.call ⟨.value f,xs,ats⟩,ty,pos,af,gd⟩ a i) M=K:=by
    show Bool.rec (motive:=fun _=>Nat) M.n (kOf S.hs) a.half=K
    rw [hh]
    exact r.kk
  rw [hkR,hnf,hk.ev hf,hk.evs hx, ←r.eP]
  exact q1m _ (Nat.le_max_left n1 n2)
 simp only [hone]
 show (match putT N tm v (some d) with | some tm'=>_ | none=>none)=_
 rw [Qcl hd]
 exact Qcv (ev_le (Nat.le_max_right n1 n2)) r2
end
theorem RS.ls {α:Type} {R:G→List V→α→Prop} {s:Nat} {g:G} {w:V} {l:List α} (h:RS R s g w l):∃ cs,Ls R s g cs l∧((l=[]∧cs=[])∨∃ b o full tt,Sl w b o l.length∧g b=some (.cells full tt)∧o+l.length * s≤full.length∧(full.drop o).take (l.length * s)=cs):=by
 have key:∀ (l:List α) (b o:Nat) (full:List V) (tt:Nat),g b=some (.cells full tt)→(∀ j x,l[j]? =some x→∃ cs,cs.length=s∧Pt g b (o+j * s) cs∧R g cs x)→(l=[]∨o+l.length * s≤full.length)∧Ls R s g ((full.drop o).take (l.length * s)) l:=by
  intro l
  induction l with
  | nil=>intro b o full tt hg hx;exact ⟨.inl rfl,by rw [List.length_nil,Nat.zero_mul,List.take_zero];exact .nil⟩
  | cons x l ih=>
    intro b o full tt hg hx
    obtain ⟨c,h1,⟨full',tt',h2,h3,h4⟩,h5⟩:=hx 0 x rfl
    rw [hg] at h2
    cases h2
    rw [Nat.zero_mul,Nat.add_zero] at h3 h4
    obtain ⟨i1,i2⟩:=ih b (o+s) full tt hg fun j y hy=>by
     obtain ⟨c,k1,k2,k3⟩:=hx (j+1) y (by simpa using hy)
     exact ⟨c,k1,by rw [Nat.add_mul,Nat.one_mul] at k2;rw [Nat.add_assoc,Nat.add_comm s];exact k2,k3⟩
    have hle:o+(x :: l).length * s≤full.length:=by
     rw [List.length_cons,Nat.add_mul,Nat.one_mul]
     rcases i1 with rfl | i1
     ·simp;omega
     ·omega
    refine ⟨.inr hle,?_⟩
    have e:(full.drop o).take ((x :: l).length * s)=c ++ (full.drop (o+s)).take (l.length * s):=by
     rw [List.length_cons,Nat.add_mul,Nat.one_mul,Nat.add_comm,List.take_add,List.drop_drop]
     congr 1
     rw [←h4,h1]
    rw [e]
    exact .cons h1 h5 i2
 rcases h.2 with ⟨_,rfl⟩ | ⟨_,rfl⟩ | ⟨b,o,h1,h2⟩
 ·exact ⟨[],.nil,.inl ⟨rfl,rfl⟩⟩
 ·exact ⟨[],.nil,.inl ⟨rfl,rfl⟩⟩
 ·cases l with
  | nil=>exact ⟨[],.nil,.inl ⟨rfl,rfl⟩⟩
  | cons x l=>
    obtain ⟨c,_,⟨full,tt,hg,_,_⟩,_⟩:=h2 0 x rfl
    obtain ⟨k1,k2⟩:=key (x :: l) b o full tt hg h2
    rcases k1 with k1 | k1
    ·cases k1
    ·exact ⟨_,k2,.inr ⟨b,o,full,tt,h1.sl1,hg,k1,rfl⟩⟩
section
variable {P:Program} {nat:Nats} {K N:Nat} {B:Base} {al:AL} {g:G} {ml:ML} {ops l:List Oper} {R:OQ} {d ty:Nat} {pos:String} {af:Array Edge} {gd:Option (Nat × Bool)}
theorem Sc.rs {α:Type} {S:G→List V→α→Prop} {s xT e:Nat} {y:Operand} {w:V} {m:List α} (hy:vA al y=some w) (he:slO P xT=some e) (h:RS S s g w m):∃ cs,Ls S s g cs m∧Sc P al g ml s xT y m.length cs:=by
 obtain ⟨cs,h1,h2⟩:=h.ls
 refine ⟨cs,h1,?_⟩
 rcases h2 with ⟨rfl,rfl⟩ | ⟨b,o,full,tt,k1,k2,k3,k4⟩
 ·intro tm m hk hs
  rcases h.2 with ⟨rfl,_⟩ | ⟨rfl | rfl,_⟩ | ⟨b,o,q1,q2⟩
  ·simp only [hk.ev hy,srcV,he];rfl
  ·simp only [hk.ev hy,srcV,he];rfl
  ·simp only [hk.ev hy,srcV,he];rfl
  ·cases q1 <;> simp only [hk.ev hy,srcV,he,List.length_nil,if_true]
 ·exact .of hy k1 he (.g k2) (by rw [Qas];exact k3) (by rw [Qbw,Qcj];exact k4)
end
section
variable {P:Program} {nat:Nats} {ro:Option Nat} {K N:Nat} {B:Base} {al:AL} {g g':G} {ml ml':ML} {ops l:List Oper} {tb:List Ri} {i:Nat} {ls:List (Nat × Nat)} {ps:List Pd2} {mu:Option Nat} {rest:List Sg} {R:OQ} {Q:AQ} {ds:List D} {Φ:G→Prop}
theorem Wc.see {c:Code} (f:∀ h,St B g ml h→∃ g',Φ g'∧St B g' ml' h) (k:∀ g',Φ g'→Wc P nat ro N B c al g' ml' ds Q):Wc P nat ro N B c al g ml ds Q:=fun tm h hk st=>by
 obtain ⟨g',h1,h2⟩:=f h st
 exact k g' h1 tm h hk h2
theorem Wo.see (f:∀ h,St B g ml h→∃ g',Φ g'∧St B g' ml' h) (k:∀ g',Φ g'→Wo P nat N B ops l al g' ml' R):Wo P nat N B ops l al g ml R:=fun tm h hk st=>by
 obtain ⟨g',h1,h2⟩:=f h st
 exact k g' h1 tm h hk h2
theorem Wd.see (f:∀ h,St B g ml h→∃ g',Φ g'∧St B g' ml' h) (k:∀ g',Φ g'→Wd P nat K N B ops l tb i al ((g',ml',mu) :: rest) ls ps R):Wd P nat K N B ops l tb i al ((g,ml,mu) :: rest) ls ps R:=fun n0 tm S hk r=>by
 have hs:=r.hs
 cases hs':S.hs with
 | nil=>rw [hs'] at hs;cases hs
 | cons p l2=>
   rw [hs'] at hs
   cases hs with
   | one h=>
     obtain ⟨g',h1,h2⟩:=f _ h.1
     exact k g' h1 n0 tm S hk {r with hs:=by rw [hs'];exact .one ⟨h2,h.2⟩}
   | cons h t=>
     obtain ⟨g',h1,h2⟩:=f _ h.1
     exact k g' h1 n0 tm S hk {r with hs:=by rw [hs'];exact .cons ⟨h2,h.2⟩ t}
theorem seeFreeze {α:Type} {Rr:G→List V→α→Prop} {v:V} {s t:Nat} {cs:List V} {xs:List α} (hR:∀ g g' cs x,Le g g'→Rr g cs x→Rr g' cs x) (hm:Tk (.acc v s cs t) ml ml') (hs:0 < s) (hL:AccR Rr s g v cs xs):∀ h,St B g ml h→∃ g',(Le g g'∧RS Rr s g' v xs)∧St B g' ml' h:=fun h st=>by
 obtain ⟨g',h1,h2,h3⟩:=st.freezeL hR hm hs hL
 exact ⟨g',⟨h1,h2⟩,h3⟩
end
theorem Ls.set {α:Type} {R:G→List V→α→Prop} {s:Nat} {g:G} {cs c':List V} {xs:List α} {y':α} (h:Ls R s g cs xs) (h1:c'.length=s) (h2:R g c' y'):∀ {j:Nat},j < xs.length→Ls R s g (cs.take (j * s) ++ c' ++ cs.drop (j * s+s)) (xs.set j y'):=by
 induction h with
 | nil=>intro j hj;cases hj
 | @cons c cs y xs a b hr ih=>
   intro j hj
   cases j with
   | zero=>
     have e:(c ++ cs).drop s=cs:=by rw [←a,List.drop_left'];rfl
     rw [Nat.zero_mul,Nat.zero_add,List.take_zero,List.nil_append,e,List.set_cons_zero]
     exact .cons h1 h2 hr
   | succ j=>
     have hj2:j < xs.length:=by rw [List.length_cons] at hj;omega
     have e1:(c ++ cs).take ((j+1) * s)=c ++ cs.take (j * s):=by
      rw [Nat.add_mul,Nat.one_mul,Nat.add_comm,List.take_append,List.take_of_length_le (by omega),a]
      congr 2;omega
     have e2:(c ++ cs).drop ((j+1) * s+s)=cs.drop (j * s+s):=by
      rw [show (j+1) * s+s=s+(j * s+s) by rw [Nat.add_mul,Nat.one_mul];omega, ←List.drop_drop]
      congr 1
      rw [←a,List.drop_left'];rfl
     rw [e1,e2,List.set_cons_succ,List.append_assoc,List.append_assoc, ←List.append_assoc (as:=cs.take (j * s))]
     exact .cons a b (ih hj2)
theorem setL_part {cs us:List V} {a k s:Nat} (hk:k+us.length≤s) (ha:a+s≤cs.length):setL cs (a+k) us=cs.take a ++ setL ((cs.drop a).take s) k us ++ cs.drop (a+s):=by
 have hl:((cs.drop a).take s).length=s:=by rw [List.length_take,List.length_drop];omega
 rw [setL_eq cs (a+k) us (by omega),setL_eq _ k us (by omega)]
 have e1:cs.take (a+k)=cs.take a ++ ((cs.drop a).take s).take k:=by
  rw [List.take_add,List.take_take,Nat.min_eq_left (by omega)]
 have e2:((cs.drop a).take s).drop (k+us.length) ++ cs.drop (a+s)=cs.drop (a+k+us.length):=by
  rw [←List.drop_drop (l:=cs) (i:=s), ←List.drop_append_of_le_length (by omega),List.take_append_drop,List.drop_drop]
  congr 1;omega
 rw [e1, ←e2]
 simp only [List.append_assoc]
theorem setL_len {cs us:List V} {o:Nat} (h:o+us.length≤cs.length):(setL cs o us).length=cs.length:=by
 rw [setL_eq cs o us h]
 simp
 omega
theorem AccR.set {α:Type} {R:G→List V→α→Prop} {s:Nat} {g:G} {v:V} {cs c us:List V} {xs:List α} {j k:Nat} {y y':α} (h:AccR R s g v cs xs) (hy:xs[j]? =some y) (hc:(cs.drop (j * s)).take s=c) (hk:k+us.length≤s) (hR:R g (setL c k us) y'):AccR R s g v (setL cs (j * s+k) us) (xs.set j y'):=by
 have hj:=(List.getElem?_eq_some_iff.1 hy).1
 have hle:=h.cellsLe hy
 have hcl:c.length=s:=by rw [←hc,List.length_take,List.length_drop];omega
 have e:setL cs (j * s+k) us=cs.take (j * s) ++ setL c k us ++ cs.drop (j * s+s):=by rw [setL_part hk hle,hc]
 have hl:(setL cs (j * s+k) us).length=cs.length:=setL_len (by omega)
 refine ⟨?_,?_,by rw [List.length_set];exact h.le⟩
 ·rcases h.sh with ⟨he,rfl⟩ | ⟨b,n,hv,h1⟩
  ·exact .inl ⟨he,List.length_eq_zero_iff.1 (by rw [hl];rfl)⟩
  ·exact .inr ⟨b,n,hv,by rw [hl];exact h1⟩
 ·rw [e]
  exact h.ls.set (by rw [setL_len (by omega)];exact hcl) hR hj
section
variable {P:Program} {nat:Nats} {K N:Nat} {B:Base} {al:AL} {g:G} {ml:ML} {ops l:List Oper} {R:OQ} {d ty:Nat} {pos:String} {af:Array Edge} {gd:Option (Nat × Bool)}
def bA (al:AL) (o:Option Operand) (d n:Int):Prop:=match o with
 | none=>n=d
 | some x=>∃ k,vA al x=some (.i k n)
theorem bA.bnd {tm:TT V} {o:Option Operand} {d lim:Nat} {n:Nat} (hk:Kn tm al) (h:bA al o (d:Int) (n:Int)) (hl:n≤lim) (hd:o=none→n=d):Ev.bnd (omp (ev0 tm) o) d lim=some n:=by
 cases o with
 | none=>show some d=some n;rw [hd rfl]
 | some x=>
   obtain ⟨k,hx⟩:=h
   show Ev.bnd (some (ev0 tm x)) d lim=_
   rw [hk.ev hx]
   show (if 0≤(n:Int)∧(n:Int)≤lim then some (n:Int).toNat else none)=_
   rw [if_pos (by omega)];simp
end
section
variable (P:Program)
noncomputable def an2:Option Bool→Option Bool→Option Bool
 | some a,some b=>some (a && b)
 | _,_=>none
noncomputable def eqFw (go:TypeId→V→V→Option Bool) (a c:List V):List Field→Option Bool
 | []=>some true
 | f :: fs=>bif f.name == "_" then eqFw go a c fs else
    match partV P f.type a f.offset,partV P f.type c f.offset with
    | some x,some z=>an2 (go f.type x z) (eqFw go a c fs)
    | _,_=>none
noncomputable def eqEw (go:TypeId→V→V→Option Bool) (e:TypeId) (s:Nat) (a c:List V):List Nat→Option Bool
 | []=>some true
 | i :: is=>match partV P e a (i * s),partV P e c (i * s) with
   | some x,some z=>an2 (go e x z) (eqEw go e s a c is)
   | _,_=>none
noncomputable def eqDw (go:TypeId→V→V→Option Bool) (t:TypeId) (x z:V):Option TypeDesc→Option Bool
 | some .bool=>eqB x z
 | some (.int _)=>eqI x z
 | some .string=>eqS x z
 | some (.struct _)=>(match x,z with
   | .agg a,.agg c=>bif P.stoodInHeld t then none else eqFw P go a c (P.fieldsOf t).toList
   | _,_=>none)
 | some (.array n e)=>(match x,z with
   | .agg a,.agg c=>(match P.info? e with
     | some _=>eqEw P go e (P.cellsOf e) a c (List.range n)
     | none=>none)
   | _,_=>none)
 | _=>none
noncomputable def eqW (n:Nat):TypeId→V→V→Option Bool:=
 Nat.rec (motive:=fun _=>TypeId→V→V→Option Bool) (fun _ _ _=>none) (fun _ ih t x z=>eqDw P ih t x z (P.underlying t)) n
end
section
variable {P:Program}
theorem an2_some {x y:Option Bool} {r:Bool} (h:an2 x y=some r):∃ a b,x=some a∧y=some b∧r=(a && b):=by
 cases x with
 | none=>cases h
 | some a=>cases y with
   | none=>cases h
   | some b=>exact ⟨a,b,rfl,rfl,(Option.some.inj h).symm⟩
theorem eqFw_ok {go go':TypeId→V→V→Option Bool} (hg:∀ t x z r,go t x z=some r→go' t x z=some r) {a c:List V}:∀ {fs:List Field} {r:Bool},eqFw P go a c fs=some r→eqFs P go' a c fs=some r
 | [],r,h=>h
 | f :: fs,r,h=>by
   unfold eqFw at h
   unfold eqFs
   cases hn:f.name == "_" with
   | true=>
     rw [hn] at h
     rw [if_neg (by simpa using hn)]
     exact eqFw_ok hg h
   | false=>
     rw [hn] at h
     rw [if_pos (by simpa using hn)]
     simp only [cond_false] at h
     split at h
     ·rename_i x z hx hz
      obtain ⟨p,q,h1,h2,rfl⟩:=an2_some h
      simp only [hx,hz,hg _ _ _ _ h1]
      cases p with
      | true=>exact eqFw_ok hg h2
      | false=>rfl
     ·cases h
theorem eqEw_ok {go go':TypeId→V→V→Option Bool} (hg:∀ t x z r,go t x z=some r→go' t x z=some r) {e:TypeId} {s:Nat} {a c:List V}:∀ {is:List Nat} {r:Bool},eqEw P go e s a c is=some r→eqEls P go' e s a c is=some r
 | [],r,h=>h
 | i :: is,r,h=>by
   unfold eqEw at h
   unfold eqEls
   split at h
   ·rename_i x z hx hz
    obtain ⟨p,q,h1,h2,rfl⟩:=an2_some h
    simp only [hx,hz,hg _ _ _ _ h1]
    cases p with
    | true=>exact eqEw_ok hg h2
    | false=>rfl
   ·cases h
theorem eqW_ok:∀ (n:Nat) (t:TypeId) (x z:V) (r:Bool),eqW P n t x z=some r→eqV P n t x z=some r:=by
 intro n
 induction n with
 | zero=>intro t x z r h;cases h
 | succ n ih=>
   intro t x z r h
   rw [eqV_succ]
   have h:eqDw P (eqW P n) t x z (P.underlying t)=some r:=h
   unfold eqDw at h
   split at h
   ·rename_i hd;rw [hd];exact h
   ·rename_i hd;rw [hd];exact h
   ·rename_i hd;rw [hd];exact h
   ·rename_i hd;rw [hd]
    unfold eqD
    split at h
    ·cases hs:P.stoodInHeld t with
     | true=>rw [hs] at h;cases h
     | false=>
       rw [hs] at h
       simp only [eqSt,hs,Bool.false_eq_true,if_false]
       exact eqFw_ok ih h
    ·cases h
   ·rename_i hd;rw [hd]
    unfold eqD
    split at h
    ·split at h
     · rename_i i hi
       simp only [eqAr,hi]
       exact eqEw_ok ih h
     · cases h
    ·cases h
   ·cases h
theorem binV_neq {t:TypeId} {x y:Operand} {a c:List V} {r:Bool} (hg:P.eqGuardType P.depth t=false) (h:eqW P 60 t (.agg a) (.agg c)=some r):binV P .neq t x y (.agg a) (.agg c)=some (.b (!r)):=by
 show (if (true && !P.eqGuardType P.depth t)=true then eqG P .neq t (.agg a) (.agg c) else none)=_
 rw [hg]
 show eqN P true t (.agg a) (.agg c)=_
 unfold eqN
 rw [eqW_ok 60 t _ _ _ h]
 rfl
end
theorem dT {p:Prop} [Decidable p] (h:decide p=true):p:=of_decide_eq_true h
theorem dF {p:Prop} [Decidable p] (h:decide p=false): ¬ p:=of_decide_eq_false h
theorem nT {x:Bool} (h:(!x)=true):x=false:=by cases x <;> first | rfl | cases h
theorem nF {x:Bool} (h:(!x)=false):x=true:=by cases x <;> first | rfl | cases h
section
variable {P:Program} {nat:Nats} {K N:Nat} {B:Base} {al:AL} {g:G} {ml:ML} {ops l:List Oper} {R:OQ} {d ty:Nat} {pos:String} {af:Array Edge} {v:V} {x:Operand}
theorem Wo.ixk {α:Type} {S:G→List V→α→Prop} {s:Nat} {m:List α} {t:TypeId} {x i:Operand} {k:IntKind} {j:Nat} {y:α} {gd:Option (Nat × Bool)} (hg:Gd ops al gd) (hd:Nat.blt d N=true)
  (hx:vA al x=some v) (h:RS S s g v m) (hi:vA al i=some (.i k (j:Int))) (ht:seO P t=some s) (hy:m[j]? =some y)
  (kk:∀ b o cs,Pt g b o cs→S g cs y→Wo P nat N B ops l ((d,.p b o) :: al) g ml R):Wo P nat N B ops (⟨some d,.indexAddr t x i,ty,pos,af,gd⟩ :: l) al g ml R:=
 .ixn hg hd hx h hi ht (atN_lt hy) fun b o cs y' h1 h2 h3=>by
  obtain rfl:=same hy h1
  exact kk b o cs h2 h3
theorem Wo.ixl {α:Type} {S:G→List V→α→Prop} {s:Nat} {m:List α} {t:TypeId} {x i:Operand} {k:IntKind} {j:Int} {y:α} {gd:Option (Nat × Bool)} (hg:Gd ops al gd) (hd:Nat.blt d N=true)
  (hx:vA al x=some v) (h:RS S s g v m) (hi:vA al i=some (.i k j)) (ht:seO P t=some s) (hy:atI m j=some y)
  (kk:∀ b o cs,Pt g b o cs→S g cs y→Wo P nat N B ops l ((d,.p b o) :: al) g ml R):Wo P nat N B ops (⟨some d,.indexAddr t x i,ty,pos,af,gd⟩ :: l) al g ml R:=
 .ixi hg hd hx h hi ht (atI_lt hy) fun b o cs y' h1 h2 h3=>by
  obtain rfl:=same (atI_get hy) h1
  exact kk b o cs h2 h3
end
section
variable {P:Program} {nat:Nats} {K N:Nat} {B:Base} {al:AL} {ops l:List Oper} {a:Ri} {tb:List Ri} {i0:Nat} {sg:List Sg} {ls:List (Nat × Nat)} {ps:List Pd2} {R:OQ} {d ty:Nat} {pos:String} {af:Array Edge} {v:V} {x:Operand}
theorem Wd.ixk {α:Type} {S:G→List V→α→Prop} {g:G} {s:Nat} {m:List α} {t:TypeId} {x i:Operand} {k:IntKind} {j:Nat} {y:α} {gd:Option (Nat × Bool)} (hg:Gd ops al gd) (hd:Nat.blt d N=true)
  (hx:vA al x=some v) (h:RS S s g v m) (hi:vA al i=some (.i k (j:Int))) (ht:seO P t=some s) (hy:m[j]? =some y)
  (kk:∀ b o cs,Pt g b o cs→S g cs y→Wd P nat K N B ops l tb (i0+1) ((d,.p b o) :: al) sg ls ps R):Wd P nat K N B ops (⟨some d,.indexAddr t x i,ty,pos,af,gd⟩ :: l) (a :: tb) i0 al sg ls ps R:=
 .ixn hg hd hx h hi ht (atN_lt hy) fun b o cs y' h1 h2 h3=>by
  obtain rfl:=same hy h1
  exact kk b o cs h2 h3
theorem Wd.ixl {α:Type} {S:G→List V→α→Prop} {g:G} {s:Nat} {m:List α} {t:TypeId} {x i:Operand} {k:IntKind} {j:Int} {y:α} {gd:Option (Nat × Bool)} (hg:Gd ops al gd) (hd:Nat.blt d N=true)
  (hx:vA al x=some v) (h:RS S s g v m) (hi:vA al i=some (.i k j)) (ht:seO P t=some s) (hy:atI m j=some y)
  (kk:∀ b o cs,Pt g b o cs→S g cs y→Wd P nat K N B ops l tb (i0+1) ((d,.p b o) :: al) sg ls ps R):Wd P nat K N B ops (⟨some d,.indexAddr t x i,ty,pos,af,gd⟩ :: l) (a :: tb) i0 al sg ls ps R:=
 .ixi hg hd hx h hi ht (atI_lt hy) fun b o cs y' h1 h2 h3=>by
  obtain rfl:=same (atI_get hy) h1
  exact kk b o cs h2 h3
end
section
variable {P:Program} {nat:Nats} {ro:Option Nat} {K N:Nat} {B:Base} {al:AL} {g:G} {ml ml':ML} {ops l:List Oper} {tb:List Ri} {i:Nat} {ls:List (Nat × Nat)} {ps:List Pd2} {mu:Option Nat} {rest:List Sg} {R:OQ} {Q:AQ} {ds:List D}
theorem AccR.part {α:Type} {S:G→List V→α→Prop} {s:Nat} {v:V} {cs c us:List V} {xs:List α} {j k:Nat} {y:α} (h:AccR S s g v cs xs) (hy:xs[j]? =some y) (hc:(cs.drop (j * s)).take s=c) (hk:k+us.length≤s):((setL cs (j * s+k) us).drop (j * s)).take s=setL c k us:=by
 have hle:=h.cellsLe hy
 have hcl:c.length=s:=by rw [←hc,List.length_take,List.length_drop];omega
 rw [setL_part hk hle,hc,List.append_assoc]
 have e1:(cs.take (j * s)).length=j * s:=by rw [List.length_take];omega
 have e2:(setL c k us).length=s:=by rw [setL_len (by omega)];exact hcl
 rw [List.drop_append_of_le_length (by omega),List.drop_of_length_le (by omega),List.nil_append,List.take_append_of_le_length (by omega),List.take_of_length_le (by omega)]
end
section
variable {P:Program} {nat:Nats} {K N:Nat} {B:Base} {al:AL} {g:G} {ml:ML} {ops l:List Oper} {R:OQ} {d ty:Nat} {pos:String} {af:Array Edge} {gd:Option (Nat × Bool)}
end
theorem IntR.one {g:G} {cs:List V} {n:Int} (h:IntR g cs n):Qb cs=true:=by rw [h];rfl
theorem BoolR.one {g:G} {cs:List V} {n:Bool} (h:BoolR g cs n):Qb cs=true:=by rw [h];rfl
theorem StrR.one {g:G} {cs:List V} {n:List UInt8} (h:StrR g cs n):Qb cs=true:=by rw [h];rfl
def arr {α:Type} (l:List α) (z:α):Nat→α:=fun i=>l.getD i z
end Go.Ev
namespace Go.Ev
open Go Go.WideShapes
set_option linter.unusedVariables false
theorem Qam {s o n:Nat} {cs:List Value} {l r:List V} (h:aVs s ((cs.drop o).take n)=l) (k:aVs s (cs.drop (o+n))=r):aVs s (cs.drop o)=l ++ r:=by
 rw [←h, ←k, ←aVs_app, ←List.drop_drop,List.take_append_drop]
theorem Qde {s o:Nat} {cs:List Value} (h:cs.length≤o):aVs s (cs.drop o)=[]:=by
 rw [List.drop_eq_nil_of_le h];simp only [aVs]
theorem okWide_arrayE {P:Program} {w:World} {r:Reach} {base:Nat} {t:TypeId} {v:Value} {n:Nat} {e:TypeId} (ht:P.underlying t=some (.array n e)) (h:Value.okWide P w r base t v):∃ cs,v= .agg cs∧cs.size=P.cellsOf t:=by
 simp only [Value.okWide,ht] at h
 obtain ⟨cs,h1,h2,_⟩:=h
 exact ⟨cs,h1,h2⟩
def SlR {α:Type} (R:G→List V→α→Prop) (s:Nat) (g:G) (cs:List V) (l:List α):Prop:=∃ v,cs=[v]∧RS R s g v l
theorem SlR.mono {α:Type} {R:G→List V→α→Prop} (hR:∀ g g' cs x,Le g g'→R g cs x→R g' cs x) {s:Nat}:∀ g g' cs x,Le g g'→SlR R s g cs x→SlR R s g' cs x:=fun _ _ _ _ hl ⟨v,h1,h2⟩=>⟨v,h1,h2.mono hR hl⟩
theorem SlR.one {α:Type} {R:G→List V→α→Prop} {s:Nat} {g:G} {cs:List V} {l:List α} (h:SlR R s g cs l):Qb cs=true:=by
 obtain ⟨v,rfl,h⟩:=h
 exact Qa h.one rfl
end Go.Ev
namespace Go.Ev
open Go
set_option linter.unusedVariables false
section
variable {P:Program} {nat:Nats} {ro:Option Nat} {N:Nat} {B:Base} {al:AL} {g g0:G} {ml ml':ML} {Q:AQ} {ds:List D} {Φ:G→Prop}
def joinQ {α:Type} (B:Base) (A:α→AL) (M:α→ML) (J:α→G→Prop) (g0:G) (ds:List D) (Q:AQ):AQ:=fun e al g ml ds'=>match e with
 | .normal=>∀ h,St B g ml h→ds'=ds∧∃ x g',SubL al (A x)∧St B g' (M x) h∧Le g0 g'∧J x g'
 | .exit i=>Q (.exit i) al g ml ds'
 | .ret=>Q .ret al g ml ds'
theorem JQ.see {α:Type} {A:α→AL} {M:α→ML} {J:α→G→Prop} (f:∀ h,St B g ml h→∃ g',Φ g'∧St B g' ml' h) (k:∀ g',Φ g'→joinQ B A M J g0 ds Q .normal al g' ml' ds):joinQ B A M J g0 ds Q .normal al g ml ds:=fun h s=>by
 obtain ⟨g',h1,h2⟩:=f h s
 exact k g' h1 h h2
end
end Go.Ev
