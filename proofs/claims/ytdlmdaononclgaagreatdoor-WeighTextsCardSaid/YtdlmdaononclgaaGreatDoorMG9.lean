import Derived.Test.YtdlmdaononclgaaGreatDoorMG8
import Derived.Laws.Rows
import Derived.Lib.SmallJoins
import Derived.OpenShut
import Derived.DataReads
import Derived.WideShapes
import Derived.Test.YtdlmdaononclgaaGreatDoorMG7
import Derived.Test.YtdlmdaononclgaaGreatDoorProg
import Derived.KernelRfl
namespace Go.Ev
open Go
set_option linter.unusedVariables false
set_option linter.unusedSimpArgs false
mutual
noncomputable def aV (s:Nat):Value→V
 | .bool x=>.b x
 | .int k n=>.i k n
 | .string x=>.s x.data.toList
 | .pointer none=>.p0
 | .pointer (some ⟨r,o,none⟩)=>if r < s then .p r o else .any
 | .slice none 0 0=>.sn
 | .slice (some ⟨r,o,sp⟩) n c=>if r < s∧sp=none then .sl r o n c else if n=0 then (if c=0 then .ez else .e0) else .any
 | .nilFunc=>.nf
 | .nilIface=>.ni
 | .agg ⟨cs⟩=>.agg (aVs s cs)
 | .tuple ⟨cs⟩=>.tup (aVs s cs)
 | _=>.any
noncomputable def aVs (s:Nat):List Value→List V
 | []=>[]
 | v :: r=>aV s v :: aVs s r
end
noncomputable def aEnv (w:World):Env:=fun b=>match w.heap[b]? with
 | some (.cells C _ _)=>some ⟨b,0,C.size⟩
 | some _=>some ⟨b,0,0⟩
 | none=>none
theorem aEnv_lt {w:World} {b:Nat} (h:b < w.heap.size):∃ e,aEnv w b=some e∧e.r=b∧e.base=0:=by
 unfold aEnv
 rw [Array.getElem?_eq_getElem h]
 try simp only []
 split
 ·exact ⟨_,rfl,rfl,rfl⟩
 ·exact ⟨_,rfl,rfl,rfl⟩
 ·rename_i h2;cases h2
theorem aEnv_some {w:World} {b:Nat} {e:Pl} (h:aEnv w b=some e):b < w.heap.size∧e.r=b∧e.base=0:=by
 unfold aEnv at h
 split at h
 ·rename_i C t fr hb
  cases h
  exact ⟨(Array.getElem?_eq_some_iff.1 hb).1,rfl,rfl⟩
 ·rename_i x _ hb
  cases h
  exact ⟨(Array.getElem?_eq_some_iff.1 hb).1,rfl,rfl⟩
 ·cases h
mutual
theorem aV_ok (w:World):∀ v:Value,VR (aEnv w) (aV w.heap.size v) v
 | .bool _ | .int .. | .pointer none | .nilFunc | .nilIface=>by simp only [aV,VR]
 | .string s=>by simp only [aV,VR]
 | .slice none 0 0=>by simp only [aV,VR]
 | .pointer (some ⟨r,o,none⟩)=>by
   simp only [aV]
   by_cases h:r < w.heap.size
   ·rw [if_pos h]
    obtain ⟨e,h1,h2,h3⟩:=aEnv_lt h
    simp only [VR]
    exact ⟨e,h1,by rw [h2,h3];simp⟩
   ·rw [if_neg h];simp only [VR]
 | .slice (some ⟨r,o,sp⟩) n c=>by
   simp only [aV]
   by_cases h:r < w.heap.size∧sp=none
   ·rw [if_pos h]
    obtain ⟨h,rfl⟩:=h
    obtain ⟨e,h1,h2,h3⟩:=aEnv_lt h
    simp only [VR]
    exact ⟨e,h1,by rw [h2,h3];simp⟩
   ·rw [if_neg h]
    by_cases h0:n=0
    ·subst h0
     rw [if_pos rfl]
     by_cases hc0:c=0
     ·subst hc0;rw [if_pos rfl];simp only [VR];exact ⟨_,rfl⟩
     ·rw [if_neg hc0];simp only [VR];exact ⟨_,_,rfl⟩
    ·rw [if_neg h0];simp only [VR]
 | .agg ⟨cs⟩=>by simp only [aV,VR];exact ⟨cs,aVs_ok w cs,rfl⟩
 | .tuple ⟨cs⟩=>by simp only [aV,VR];exact ⟨cs,aVs_ok w cs,rfl⟩
 | .slice none (n+1) c | .slice none 0 (c+1) | .pointer (some ⟨_,_,some _⟩) | .float .. | .complex .. | .map _ | .chan _ | .iface _ _ | .func .. =>by simp only [aV,VR]
theorem aVs_ok (w:World):∀ vs:List Value,VRs (aEnv w) (aVs w.heap.size vs) vs
 | []=>by simp only [aVs,VRs]
 | v :: r=>by simp only [aVs,VRs];exact ⟨v,r,aV_ok w v,aVs_ok w r,rfl⟩
end
noncomputable def aBlk (s:Nat):Obj→Option Blk
 | .cells C t _=>some (.cells (aVs s C.toList) t)
 | _=>none
noncomputable def aT (w:World):Nat→TT Blk
 | 0=>.lf
 | n+1=>match (w.heap[n]?).bind (aBlk w.heap.size) with
   | some x=>(aT w n).set n x
   | none=>aT w n
theorem aT_get (w:World):∀ n b,(aT w n).get b=if b < n then (w.heap[b]?).bind (aBlk w.heap.size) else none
 | 0,b=>by rw [if_neg (Nat.not_lt_zero _)];rfl
 | n+1,b=>by
   have ih:=aT_get w n b
   unfold aT
   split
   ·rename_i x hx
    rw [TT.get_set]
    by_cases e:b=n
    ·subst e;rw [if_pos rfl,if_pos (Nat.lt_succ_self _),hx]
    ·rw [if_neg e,ih]
     by_cases h:b < n
     ·rw [if_pos h,if_pos (by omega)]
     ·rw [if_neg h,if_neg (by omega)]
   ·rename_i hx
    rw [ih]
    by_cases e:b=n
    ·subst e;rw [if_neg (by omega),if_pos (Nat.lt_succ_self _),hx]
    ·by_cases h:b < n
     ·rw [if_pos h,if_pos (by omega)]
     ·rw [if_neg h,if_neg (by omega)]
noncomputable def aH (w:World):H:=⟨aT w w.heap.size,w.heap.size,w.heap.size⟩
noncomputable def gW (w:World):G:=fun b=>(w.heap[b]?).bind (aBlk w.heap.size)
theorem aH_get (w:World) (b:Nat):(aH w).get b=gW w b:=by
 show (aT w w.heap.size).get b=_
 rw [aT_get]
 unfold gW
 by_cases h:b < w.heap.size
 ·rw [if_pos h]
 ·rw [if_neg h,Array.getElem?_eq_none (by omega)];rfl
theorem aVs_len (s:Nat):∀ l:List Value,(aVs s l).length=l.length
 | []=>by simp only [aVs,List.length_nil]
 | v :: r=>by simp only [aVs,List.length_cons,aVs_len s r]
theorem HR.start (w:World):HR w (aEnv w) (aH w) w:=by
 refine ⟨fun b hb=>?_,fun b e he=>?_,fun b x hx=>?_,fun b b' x x' e e' h1 h2 h3 h4 h5 h6 h7=>?_,Nat.le_refl _,RowKit.Below.refl _ _,fun b e he hb=>?_⟩
 ·have hb:w.heap.size≤b:=hb
  unfold aEnv
  rw [Array.getElem?_eq_none hb]
 ·obtain ⟨h1,h2,_⟩:=aEnv_some he
  rw [h2];exact h1
 ·rw [aH_get] at hx
  unfold gW at hx
  cases hb:w.heap[b]? with
  | none=>rw [hb] at hx;cases hx
  | some o=>
    rw [hb] at hx
    have hx:aBlk w.heap.size o=some x:=hx
    cases o with
    | cells C t fr=>
      cases hx
      refine ⟨⟨b,0,C.size⟩,?_,C,fr,hb,rfl,?_,.inr (Array.getElem?_eq_some_iff.1 hb).1⟩
      ·unfold aEnv;rw [hb]
      ·rw [List.drop_zero,aVs_len,List.take_length]
       exact aVs_ok w C.toList
    | _=>cases hx
 ·rw [(aEnv_some h5).2.1,(aEnv_some h6).2.1] at h7;exact h7
 ·have:=(aEnv_some he).1
  have hb:w.heap.size≤b:=hb
  omega
theorem St.start (w:World):St (Base.at (aH w) (gW w) []) (gW w) [] (aH w):=by
 refine ⟨fun b hb=>?_,rfl,Nat.le_refl _,Nat.le_refl _,fun _ _ _=>rfl,fun b x hx=>by rw [aH_get];exact hx,fun b x hx _=>.inl hx,fun r hr=>(by cases hr),List.nodup_nil,fun b hb=>(by cases hb)⟩
 have hb:w.heap.size≤b:=hb
 rw [aH_get];unfold gW;rw [Array.getElem?_eq_none hb];rfl
theorem calls_of_fv {P:Program} {nat:Nats} {f:Nat} {us:List Value} {v:V} (w:World) (hv:Fv P nat (.f f [] []) (aVs w.heap.size us) (gW w) v) (hm:P.follows .mixedOrders=true) (hnat:NatOK P w nat)
  (hf:∃ fn,P.funcs[f]? =some fn∧fn.body≠none∧numO fn=false):Calls P f ⟨us⟩ w fun e w'=>∃ u env',e= .returned u∧VR env' v u∧RowKit.Below w.heap.size w w':=by
 obtain ⟨h',⟨n,hx⟩,_⟩:=hv (aH w) (St.start w)
 obtain ⟨hc,hg⟩:=ev_ok (P:=P) (w0:=w) (drawOK hm) hnat n
 have hi:=hg _ _ _ _ _ hx (aEnv w) w (.func (.func f) #[] #[]) us (HR.start w) (by simp only [VR,VRs];exact ⟨[],[],rfl,rfl,rfl⟩) (aVs_ok w us)
 have e:(do let d←Deferred.ofValue (.func (.func f) #[] #[]) ⟨us⟩;invoke d.target d.args:Sem Next)=callFunc f ⟨us⟩:=by
  show callFunc f (#[] ++ ⟨us⟩ ++ #[])=_
  simp
 rw [e] at hi
 obtain ⟨fn,hP,hb,hno⟩:=hf
 have hrun:(callFunc f ⟨us⟩).run P w= .ok (.enter f ⟨us⟩) w:=by
  unfold numO at hno
  unfold callFunc
  have hb2:fn.body.isNone=false:=by cases h:fn.body with | none=>exact absurd h hb | some x=>rfl
  simp only [beq_eq_false_iff_ne] at hno
  simp [Sem.run_bind,Result.andThen,hP,hno,hb]
 rw [hrun] at hi
 refine Calls.mono (hi:Calls P f ⟨us⟩ w _) ?_
 rintro e w' ⟨u,rfl,env',h1,h2,h3,h4⟩
 exact ⟨u,env',rfl,h1,h2.bel⟩
end Go.Ev
namespace Go.Ev
open Go
set_option linter.unusedVariables false
set_option linter.unusedSimpArgs false
section
variable {H:Type} (enc:TypeId × Value→H) (P:Program) (W:World)
def Tr (T:TypeId) (cs:List Value):Prop:=∃ fuel y,DataW.trod enc P W 0 (fun _=>true) true fuel T cs=some y
end
section
variable {H:Type} {enc:TypeId × Value→H} {P:Program} {W:World} {T:TypeId} {cs:List Value}
theorem Tr.int {k:IntKind} (ht:P.underlying T=some (.int k)) (h:Tr enc P W T cs):∃ n,cs=[.int k n]∧(Lit.int k n).wf=true:=by
 obtain ⟨fuel,y,h⟩:=h
 obtain ⟨n,h1,_,h2⟩:=DataW.trod_int ht h
 exact ⟨n,h1,h2⟩
theorem Tr.bool (ht:P.underlying T=some .bool) (h:Tr enc P W T cs):∃ n,cs=[.bool n]:=by
 obtain ⟨fuel,y,h⟩:=h
 obtain ⟨n,h1,_⟩:=DataW.trod_bool ht h
 exact ⟨n,h1⟩
theorem Tr.struct {fs:Array Field} (ht:P.underlying T=some (.struct fs)) (h:Tr enc P W T cs):cs.length=P.cellsOf T∧∀ (i:Nat) (f:Field),fs[i]? =some f→Tr enc P W f.type ((cs.drop f.offset).take (P.cellsOf f.type)):=by
 obtain ⟨fuel,y,h⟩:=h
 obtain ⟨xs,n,_,_,h1,h2,h3⟩:=DataW.trod_struct ht h
 refine ⟨h1,fun i f hf=>?_⟩
 have hi:i < xs.length:=by rw [h2];exact (Array.getElem?_eq_some_iff.1 hf).1
 exact ⟨n,xs[i],by rw [h3 i f hf,List.getElem?_eq_getElem hi]⟩
theorem Tr.len {fs:Array Field} {n:Nat} (ht:P.underlying T=some (.struct fs)) (h:Tr enc P W T cs) (hn:P.cellsOf T=n):cs.length=n:=(h.struct ht).1.trans hn
theorem Tr.array {n:Nat} {e:TypeId} (ht:P.underlying T=some (.array n e)) (h:Tr enc P W T cs):cs.length=P.cellsOf T∧∀ i,i < n→Tr enc P W e ((cs.drop (i * P.cellsOf e)).take (P.cellsOf e)):=by
 obtain ⟨fuel,y,h⟩:=h
 obtain ⟨xs,m,_,_,h1,h2,h3⟩:=DataW.trod_array ht h
 refine ⟨h1,fun i hi=>?_⟩
 exact ⟨m,xs[i]'(by omega),by rw [h3 i hi,List.getElem?_eq_getElem]⟩
theorem aVs_get (s:Nat):∀ (l:List Value) (j:Nat),(aVs s l)[j]? =(l[j]?).map (aV s)
 | [],j=>by simp only [aVs,List.getElem?_nil,Option.map_none]
 | x :: l,0=>by simp only [aVs,List.getElem?_cons_zero,Option.map_some]
 | x :: l,j+1=>by simp only [aVs,List.getElem?_cons_succ,aVs_get s l j]
theorem aVs_drop (s:Nat) (l:List Value) (n:Nat):(aVs s l).drop n=aVs s (l.drop n):=by
 apply List.ext_getElem?
 intro j
 rw [List.getElem?_drop,aVs_get,aVs_get,List.getElem?_drop]
theorem aVs_take (s:Nat) (l:List Value) (n:Nat):(aVs s l).take n=aVs s (l.take n):=by
 apply List.ext_getElem?
 intro j
 rw [List.getElem?_take,aVs_get,aVs_get,List.getElem?_take]
 split <;> simp
theorem pt_of_cells {b o n:Nat} {s:Option Nat} (hn:0 < n) (h:W.cells? 0 ⟨b,o,s⟩ n=some cs):s=none∧cs.length=n∧Pt (gW W) b o (aVs W.heap.size cs):=by
 obtain ⟨_,hl,hc⟩:=World.cells?_some h
 have h0:=hc 0 hn
 have hs:s=none:=by
   unfold World.cell? at h0
   rw [List.getElem?_eq_getElem (by omega)] at h0
   cases s with
   | none=>rfl
   | some x=>
     simp only [Addr.add] at h0
     split at h0
     ·simp at h0
     ·cases h0
 subst hs
 have hc:∀ i,i < n→W.cell? ⟨b,o+i,none⟩=cs[i]? :=fun i hi=>by
   have:=hc i hi
   rwa [Qcw] at this
 have h0:=hc 0 hn
 rw [List.getElem?_eq_getElem (by omega)] at h0
 unfold World.cell? at h0
 cases hb:W.heap[b]? with
 | none=>simp only [hb] at h0;cases h0
 | some x=>
   cases x with
   | cells C t fr=>
     have hcell:∀ i,i < n→C.toList[o+i]? =cs[i]? :=fun i hi=>by
      have:=hc i hi
      unfold World.cell? at this
      simp only [hb] at this
      simpa using this
     refine ⟨rfl,hl,aVs W.heap.size C.toList,t,?_,?_,?_⟩
     ·unfold gW;rw [hb];rfl
     ·rw [aVs_len,aVs_len]
      have:=hcell (n - 1) (by omega)
      rw [List.getElem?_eq_getElem (by omega:n - 1 < cs.length)] at this
      have:=(List.getElem?_eq_some_iff.1 this).1
      omega
     ·rw [aVs_len,aVs_drop,aVs_take]
      congr 1
      apply List.ext_getElem?
      intro j
      rw [List.getElem?_take,List.getElem?_drop]
      split
      ·exact hcell j (by omega)
      ·rw [List.getElem?_eq_none (by omega)]
   | _=>simp only [hb] at h0;cases h0
theorem Tr.rs {α:Type} {E:TypeId} {s:Nat} {R:G→List V→α→Prop} (ht:P.underlying T=some (.slice E)) (hs:P.cellsOf E=s) (h0:0 < s) (hR:∀ cs,Tr enc P W E cs→∃ d,R (gW W) (aVs W.heap.size cs) d) (h:Tr enc P W T cs):
  ∃ v l,cs=[v]∧RS R s (gW W) (aV W.heap.size v) l:=by
 obtain ⟨fuel,y,h⟩:=h
 rcases DataW.trod_slice ht h with ⟨rfl,_⟩ | ⟨a,len,cap,elems,rest,n,_,rfl,_,_,hlc,hcm,he1,he2,_,_⟩
 ·exact ⟨_,[],rfl,by simp,.inl ⟨by simp only [aV],rfl⟩⟩
 ·obtain ⟨b,o,sp⟩:=a
  unfold maxLen at hcm
  by_cases hl:len=0
  ·subst hl
   refine ⟨_,[],rfl,by simp,?_⟩
   simp only [aV]
   by_cases hb:b < W.heap.size∧sp=none
   ·rw [if_pos hb]
    exact .inr (.inr ⟨b,o,.sl (Nat.zero_le _),fun j x hx=>by simp at hx⟩)
   ·rw [if_neg hb]
    refine .inr (.inl ⟨?_,trivial⟩)
    rw [if_pos trivial]
    by_cases hc0:cap=0
    · rw [if_pos hc0];exact .inr rfl
    · rw [if_neg hc0];exact .inl rfl
  ·have el:∀ i,i < len→∃ cs',W.cells? 0 ((⟨b,o,sp⟩:Addr).add (i * s)) s=some cs'∧Tr enc P W E cs':=fun i hi=>by
    have h1:=he2 i hi
    rw [List.getElem?_eq_getElem (by omega),hs] at h1
    cases hc:W.cells? 0 ((⟨b,o,sp⟩:Addr).add (i * s)) s with
    | none=>rw [hc] at h1;cases h1
    | some cs'=>rw [hc] at h1;exact ⟨cs',rfl,n,_,h1⟩
   have hsp:sp=none:=by
    obtain ⟨cs',h1,_⟩:=el 0 (by omega)
    rw [Nat.zero_mul] at h1
    have e0:(⟨b,o,sp⟩:Addr).add 0=⟨b,o,sp⟩:=by simp [Addr.add]
    rw [e0] at h1
    exact (pt_of_cells h0 h1).1
   subst hsp
   have el2:∀ i,i < len→∃ d cs',W.cells? 0 ⟨b,o+i * s,none⟩ s=some cs'∧R (gW W) (aVs W.heap.size cs') d:=fun i hi=>by
    obtain ⟨cs',h1,h2⟩:=el i hi
    rw [Qcw] at h1
    obtain ⟨d,hd⟩:=hR cs' h2
    exact ⟨d,cs',h1,hd⟩
   have hb:b < W.heap.size:=by
    obtain ⟨d,cs',h1,_⟩:=el2 0 (by omega)
    exact World.cells?_block h1 h0
   let f:Nat→α:=fun i=>if hi:i < len then (el2 i hi).choose else (el2 0 (by omega)).choose
   refine ⟨_,(List.range len).map f,rfl,by simp;omega,.inr (.inr ⟨b,o,by simp only [aV,if_pos (And.intro hb trivial),List.length_map,List.length_range];exact .sl hlc,fun j x hx=>?_⟩)⟩
   have hj:j < len:=by
    have:=(List.getElem?_eq_some_iff.1 hx).1
    simpa using this
   simp only [List.getElem?_map,List.getElem?_range hj,Option.map_some,Option.some.injEq] at hx
   subst hx
   have hfj:f j=(el2 j hj).choose:=dif_pos hj
   rw [hfj]
   obtain ⟨cs',h1,h2⟩:=(el2 j hj).choose_spec
   obtain ⟨_,h4,h5⟩:=pt_of_cells h0 h1
   exact ⟨aVs W.heap.size cs',by rw [aVs_len];exact h4,h5,h2⟩
end
end Go.Ev
namespace Go.Ev
open Go Go.WideShapes
set_option linter.unusedVariables false
def SlR {α:Type} (R:G→List V→α→Prop) (s:Nat) (g:G) (cs:List V) (l:List α):Prop:=∃ v,cs=[v]∧RS R s g v l
theorem SlR.mono {α:Type} {R:G→List V→α→Prop} (hR:∀ g g' cs x,Le g g'→R g cs x→R g' cs x) {s:Nat}:∀ g g' cs x,Le g g'→SlR R s g cs x→SlR R s g' cs x:=fun _ _ _ _ hl ⟨v,h1,h2⟩=>⟨v,h1,h2.mono hR hl⟩
theorem SlR.one {α:Type} {R:G→List V→α→Prop} {s:Nat} {g:G} {cs:List V} {l:List α} (h:SlR R s g cs l):Qcd cs=true:=by
 obtain ⟨v,rfl,h⟩:=h
 exact allOne_cons h.one rfl
end Go.Ev
namespace Go.Ev
open Go
set_option linter.unusedVariables false
section
variable {P:Program} {nat:Nats} {ro:Option Nat} {N:Nat} {B:Base} {al:AL} {g g0:G} {ml ml':ML} {Q:AQ} {ds:List D} {Φ:G→Prop}
def joinQ {α:Type} (B:Base) (A:α→AL) (M:α→ML) (J:α→G→Prop) (g0:G) (ds:List D) (Q:AQ):AQ:=fun e al g ml ds'=>match e with
 | .normal=>∀ h,St B g ml h→ds'=ds∧∃ x g',SubL al (A x)∧St B g' (M x) h∧Le g0 g'∧J x g'
 | .exit i=>Q (.exit i) al g ml ds'
 | .ret=>Q .ret al g ml ds'
theorem joinQ_n {α:Type} {A:α→AL} {M:α→ML} {J:α→G→Prop} (x:α) (h1:SubL al (A x)) (h2:(M x).Sublist ml) (h3:Le g0 g) (h4:J x g):joinQ B A M J g0 ds Q .normal al g ml ds:=fun h s=>⟨rfl,x,g,h1,s.weak h2,h3,h4⟩
theorem JQ.see {α:Type} {A:α→AL} {M:α→ML} {J:α→G→Prop} (f:∀ h,St B g ml h→∃ g',Φ g'∧St B g' ml' h) (k:∀ g',Φ g'→joinQ B A M J g0 ds Q .normal al g' ml' ds):joinQ B A M J g0 ds Q .normal al g ml ds:=fun h s=>by
 obtain ⟨g',h1,h2⟩:=f h s
 exact k g' h1 h h2
theorem Wc.joinx {α:Type} (fx:AL) (mx:ML) (A:AL→α→AL) (M:ML→α→ML) (J:α→G→Prop) {x y:Code} (ha:SubL al fx) (hm:mx.Sublist ml)
   (h:Wc P nat ro N B x al g ml ds (joinQ B (A fx) (M mx) J g ds Q))
   (k:∀ x g',Le g g'→J x g'→Wc P nat ro N B y (A fx x) g' (M mx x) ds Q):Wc P nat ro N B (.seq x y) al g ml ds Q:=by
 refine Wc.seq fun tm m hk s=>?_
 obtain ⟨e,tm1,ds1,h1,r1,al1,g1,ml1,k1,s1,q1⟩:=h tm m hk s
 cases e with
 | normal=>
   obtain ⟨rfl,x',g',a1,a2,a3,a4⟩:=q1 h1 s1
   exact ⟨.normal,tm1,_,h1,r1,al1,g',M mx x',k1,a2,Wc.sub a1 (k x' g' a3 a4)⟩
 | exit i=>exact ⟨_,tm1,ds1,h1,r1,al1,g1,ml1,k1,s1,q1⟩
 | ret=>exact ⟨_,tm1,ds1,h1,r1,al1,g1,ml1,k1,s1,q1⟩
end
end Go.Ev
namespace Go.Ev
open Go
set_option linter.unusedVariables false
set_option linter.unusedSimpArgs false
section
variable (P:Program)
end
section
variable {P:Program} {nat:Nats} {K N:Nat} {B:Base} {al:AL} {g g' g0:G} {ml ml':ML} {ds:List D} {Q:AQ}
noncomputable def setA (N:Nat):List Nat→List V→AL→Option AL
 | [],[],al=>some al
 | p :: ps,v :: vs,al=>bif Nat.blt p N then setA N ps vs ((p,v) :: al) else none
 | _,_,_=>none
theorem setPs_kn:∀ {ps:List Nat} {vs:List V} {al al1:AL} {tm:TT V},setA N ps vs al=some al1→Kn tm al→∃ tm',setPs ps vs N tm=some tm'∧Kn tm' al1
 | [],[],al,al1,tm,h,k=>by cases h;exact ⟨tm,rfl,k⟩
 | p :: ps,v :: vs,al,al1,tm,h,k=>by
   unfold setA at h
   cases hb:Nat.blt p N with
   | false=>rw [hb] at h;cases h
   | true=>
     rw [hb] at h
     obtain ⟨tm',h1,h2⟩:=setPs_kn (ps:=ps) (vs:=vs) (tm:=tm.set p v) h (k.set p v)
     refine ⟨tm',?_,h2⟩
     unfold setPs
     rw [Qci hb];exact h1
 | [],_ :: _,_,_,_,h,_=>by cases h
 | _ :: _,[],_,_,_,h,_=>by cases h
def rnd (lp:Lp):Ex→Lp
 | .normal=>{lp with st:=.ready,pending:=none}
 | .exit id=>{lp with st:=.done,pending:=some (.exit id)}
 | .ret=>{lp with st:=.done,pending:=some .ret}
def isN:Ex→Bool
 | .normal=>true
 | _=>false
theorem Fw.yield {l:Nat} {lp:Lp} {M:ML} {args:List V} {al0 al1:AL} {Post:G→ML→V→Prop} (hs:lp.st= .ready) (hk:Kn lp.tm al0) (hp:setA lp.N lp.params args al0=some al1)
  (h:∀ B,Wc P nat (some l) lp.N B lp.assign al1 g M [] fun e al2 g2 M2 ds=>e= .normal∧ds=[]∧Le g g2∧∀ B,Wc P nat (some l) lp.N B lp.body al2 g2 M2 [] fun e al3 g3 M3 ds=>ds=[]∧Le g2 g3∧Post g3 (.blk l (.loop (rnd lp e)) :: M3) (.b (isN e))):
  Fw P nat (.y l) args g (.blk l (.loop lp) :: M) Post:=fun m s=>by
 have s':St (Base.at m g (.blk l (.loop lp) :: M)) g ([.blk l (.loop lp)] ++ M) m:=s
 obtain ⟨tm1,p1,k1⟩:=setPs_kn hp hk
 obtain ⟨e,tm2,ds2,h2,r1,al2,g2,M2,k2,s2,rfl,rfl,le2,hb⟩:=h (Base.at m g M) tm1 m k1 (s'.self M ⟨_,List.Perm.refl _⟩)
 have t2:St (Base.at m g (.blk l (.loop lp) :: M)) g2 (.blk l (.loop lp) :: M2) h2:=s'.frame s2
 have get2:h2.get l=some (.loop lp):=t2.get .hd
 have fl2:h2.fl≤l:=t2.blkFl List.mem_cons_self
 have t3:St (Base.at m g (.blk l (.loop lp) :: M)) g2 ([.blk l (.loop {lp with st:=.busy})] ++ M2) (h2.put l (.loop {lp with st:=.busy})):=t2.put .hd
 obtain ⟨e3,tm3,ds3,h3,r3,al3,g3,M3,k3,s4,rfl,le3,post⟩:=hb _ tm2 (h2.put l (.loop {lp with st:=.busy})) k2 (t3.self M2 ⟨_,List.Perm.refl _⟩)
 have t4:St (Base.at m g (.blk l (.loop lp) :: M)) g3 (.blk l (.loop {lp with st:=.busy}) :: M3) h3:=t3.frame s4
 have get4:h3.get l=some (.loop {lp with st:=.busy}):=t4.get .hd
 have fl4:h3.fl≤l:=t4.blkFl List.mem_cons_self
 have t5:St (Base.at m g (.blk l (.loop lp) :: M)) g3 (.blk l (.loop (rnd lp e3)) :: M3) (h3.put l (.loop (rnd lp e3))):=t4.put .hd
 obtain ⟨n,a,b⟩:=r1.at2 r3
 refine ⟨.b (isN e3),h3.put l (.loop (rnd lp e3)),g3,_,⟨n+1,?_⟩,t5,le2.trans le3,post⟩
 have g0:m.get l=some (.loop lp):=s.get .hd
 show sYield (ev P nat n) l args m (m.get l)=_
 rw [g0]
 show sYield2 (ev P nat n) l lp m (setPs lp.params args lp.N lp.tm)=_
 rw [p1]
 show sRound0 (ev P nat n) l lp.N lp.body (ev P nat n (.code (some l) lp.N lp.assign tm1 [] m))=_
 rw [a]
 show sRound1 (ev P nat n) l lp.N lp.body tm2 h2 (h2.get l)=_
 rw [get2]
 show (if lp.st= .ready∧h2.fl≤l then sRound2 l (ev P nat n (.code (some l) lp.N lp.body tm2 [] (h2.put l (.loop {lp with st:=.busy})))) else none)=_
 rw [if_pos ⟨hs,fl2⟩,b]
 show sRound3 l e3 h3 (h3.get l)=_
 rw [get4]
 show (if ¬ h3.fl≤l then none else _)=_
 rw [if_neg (fun x=>x fl4)]
 cases e3 <;> rfl
structure Yd (P:Program) (nat:Nats) {X:Type} (y:V) (RX:G→List V→X→Prop) (S:List X→G→ML→Prop) (E:G→ML→Prop):Prop where
 any:y.any? =false
 cells:y.cells=[y]
 one:oneV y=true
 go:∀ x xs g ml args,S (x :: xs) g ml→RX g args x→Fw P nat y args g ml fun g' ml' r=>(r= .b true∧S xs g' ml')∨(r= .b false∧E g' ml')
 monoS:∀ xs g g' ml,Le g g'→S xs g ml→S xs g' ml
 monoE:∀ g g' ml,Le g g'→E g ml→E g' ml
def It (P:Program) (nat:Nats) {X:Type} (f:V) (g0:G) (ml0:ML) (RX:G→List V→X→Prop) (L:List X):Prop:=
 ∀ y S E,Yd P nat y RX S E→∀ g ml,Le g0 g→S L g ml→Fw P nat f [y] g (ml0 ++ ml) fun g' ml' _=>S [] g' ml'∨E g' ml'
theorem It.le {X:Type} {f:V} {ml0:ML} {RX:G→List V→X→Prop} {L:List X} (h:It P nat f g0 ml0 RX L) (hl:Le g0 g):It P nat f g ml0 RX L:=fun y S E hy g' ml hle hS=>h y S E hy g' ml (hl.trans hle) hS
inductive Fr:ML→ML→ML→Prop
 | nil {m:ML}:Fr [] m m
 | app {d m:ML}:Fr d m (d ++ m)
 | cons {r:Res} {fr m l:ML}:Fr fr m l→Fr (r :: fr) m (r :: l)
theorem Fr.eq {fr m l:ML} (h:Fr fr m l):l=fr ++ m:=by
 induction h with
 | nil=>rfl
 | app=>rfl
 | cons _ ih=>rw [ih];rfl
theorem St.neg {h:H} {b c:Nat} {x y:Blk} {ml1:ML} (k:St B g ml h) (h1:Tk (.blk c x) ml ml1) (hb:g b=some y):c≠b:=fun e=>by
 have:=(k.fresh c (mem_fps h1.mem (by simp [Res.fp]))).1
 rw [e,hb] at this
 cases this
end
end Go.Ev
namespace Go.Ev
open Go
set_option linter.unusedVariables false
set_option linter.unusedSimpArgs false
section
variable {P:Program} {nat:Nats} {K N:Nat} {B:Base} {al:AL} {g:G} {ml:ML} {ops l:List Oper} {R:OQ} {d ty:Nat} {pos:String} {af:Array Edge} {gd:Option (Nat × Bool)}
end
end Go.Ev
namespace Go.Proofs.YtdlmdaononclgaaGreatDoor
open Go.Ev
set_option maxRecDepth 10000
theorem el_9:elO Tryz.prog 9=some (1,16,[V.s []]):=by kernel_rfl
theorem str_9:strO Tryz.prog 9=true:=by kernel_rfl
theorem sl_38:slO Tryz.prog 38=some 9:=by kernel_rfl
end Go.Proofs.YtdlmdaononclgaaGreatDoor
namespace Go.Proofs.YtdlmdaononclgaaGreatDoor
open Go Go.Ev
def natS:Nats:=fun _=>none
theorem natS_ok (w:World):NatOK Tryz.prog w natS:=fun f F h=>by cases h
end Go.Proofs.YtdlmdaononclgaaGreatDoor
