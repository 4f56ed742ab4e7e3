import Derived.Test.YtjflgemfeofciaaGreatDoorME2
namespace Go.Ev
open Go
set_option linter.unusedVariables false
set_option linter.unusedSimpArgs false
variable {P:Program} {w0:World}
theorem pur_some {h h':H} {x:Option V} {v:V} (hp:pur h x=some (v,h')):x=some v∧h'=h:=by
 unfold pur at hp
 split at hp
 ·cases hp;exact ⟨rfl,rfl⟩
 ·cases hp
theorem pur_any {h h' h2:H} {x:Option V} {v:V} (hp:pur h x=some (v,h')):pur h2 x=some (v,h2):=by
 rw [(pur_some hp).1];rfl
theorem opV_pure {h h':H} {r:Operand→V} {o:Op} {v:V} (h1:flB o=false) (h2:effB o=false) (h3:rdB o=false) (hv:opV P h r o=some (v,h')) (k:H):opV P k r o=some (v,k):=by
 cases o with
 | move x=>simp only [opV] at hv ⊢;cases hv;rfl
 | assign x=>simp only [opV] at hv ⊢;cases hv;rfl
 | alloc t=>cases h1
 | box t x=>cases h1
 | buildSlice t n ps=>cases h1
 | makeSlice t l c=>cases h1
 | load t a=>cases h3
 | store t a x=>cases h2
 | makeInterface t x=>
   simp only [opV,ifcV] at hv ⊢
   split at hv
   ·cases hv;rfl
   ·cases hv
 | makeFunc fn a c=>
   simp only [opV,mfV] at hv ⊢
   split at hv
   ·cases hv;rfl
   ·cases hv
 | call c=>
   simp only [opV,callV] at hv ⊢
   simp only [effB] at h2
   split at hv
   ·rename_i b hb
    rw [hb] at h2
    unfold biV at hv ⊢
    cases b <;> first | (simp at h2;done) | skip
    all_goals
     split at hv
     ·simp only [bi1] at hv ⊢;first | exact pur_any hv | cases hv
     ·simp only [bi2] at hv ⊢;first | exact pur_any hv | cases hv
     ·cases hv
   ·cases hv
 | _=>first | (simp only [opV] at hv;cases hv;done) | (simp only [opV] at hv ⊢;exact pur_any hv)
theorem loadV_at {h h2:H} {t:TypeId} {x v:V} {b:Nat} (hb:blkV x=some b) (hg:h2.get b=h.get b) (hv:loadV P h t x=some v):loadV P h2 t x=some v∧∃ c u,h.get b=some (.cells c u):=by
 unfold loadV at hv ⊢
 split at hv
 ·cases hb
  simp only [hg]
  refine ⟨hv,?_⟩
  split at hv
  ·rename_i c u hc;exact ⟨c,u,hc⟩
  ·cases hv
 ·cases hv
theorem opV_load {h h' h2:H} {r:Operand→V} {o:Op} {v:V} {b:Nat} (hr:rdB o=true) (hb:rdO r o=some b) (hv:opV P h r o=some (v,h')):
   (∃ c u,h.get b=some (.cells c u))∧(h2.get b=h.get b→opV P h2 r o=some (v,h2)):=by
 cases o with
 | load t a=>
   simp only [opV] at hv ⊢
   have h1:=(pur_some hv).1
   refine ⟨(loadV_at (h2:=h) hb rfl h1).2,fun hg=>?_⟩
   rw [(loadV_at hb hg h1).1]
   rfl
 | _=>cases hr
theorem putV_other {h h':H} {b o:Nat} {vs:List V} (hp:putV h b o vs=some h') {k:Nat} (hk:k≠b):h'.get k=h.get k:=by
 unfold putV at hp
 split at hp
 ·split at hp
  ·cases hp;rw [H.get_put,if_neg hk]
  ·cases hp
 ·cases hp
theorem newV_other {h:H} {vs:List V} {t k:Nat} (hk:k < h.n):(newV h vs t).get k=h.get k:=by
 unfold newV
 rw [H.get_new,if_neg (by omega)]
theorem opV_mod {h h':H} {r:Operand→V} {o:Op} {v:V} (he:effB o=true) (hv:opV P h r o=some (v,h')) {k:Nat} (hk:k < h.n) (hm:modO r o≠some k):h'.get k=h.get k:=by
 cases o with
 | store t a x=>
   simp only [opV,sto] at hv
   split at hv
   ·rename_i h1 hs
    cases hv
    unfold storeV at hs
    split at hs
    ·rename_i b o2 hra
     split at hs
     ·refine putV_other hs (fun e=>hm ?_)
      simp only [modO,hra,blkV,e]
     ·cases hs
    ·cases hs
   ·cases hv
 | call c=>
   simp only [opV,callV] at hv
   split at hv
   ·rename_i b hb
    unfold biV at hv
    split at hv
    ·rename_i t x ht hx
     unfold bi1 at hv
     split at hv
     ·rw [(pur_some hv).2]
     ·cases hv
    ·rename_i t u x y ht hx
     obtain ⟨a1,a2,hl,hxa,hya⟩:=lmap_two hx
     unfold bi2 at hv
     split at hv
     ·have hm2:blkV x≠some k:=by
       intro e
       apply hm
       simp only [modO,hl,hxa,e]
      unfold appendV at hv
      split at hv
      ·split at hv
       ·rename_i s _ _ _
        split at hv
        ·rename_i m cs _
         cases hz:Nat.beq m 0 with
         | true=>
           rw [hz] at hv
           have hv':app0 h x=some (v,h'):=hv
           unfold app0 at hv'
           split at hv'
           ·cases hv';rfl
           ·split at hv'
            ·cases hv';rfl
            ·cases hv'
           ·cases hv';rfl
           ·cases hv';rfl
           ·cases hv';rfl
           ·cases hv'
         | false=>
           rw [hz] at hv
           have hv':app1 h _ s m cs x=some (v,h'):=hv
           unfold app1 at hv'
           split at hv'
           ·split at hv'
            ·cases hv';exact newV_other hk
            ·cases hv'
           ·unfold appSl at hv'
            split at hv'
            ·rename_i b0 o0 n0 c0 hroom
             split at hv'
             ·rename_i h1 hp
              cases hv'
              cases c0 with
              | zero=>
                exfalso
                have:m=0:=by omega
                subst this
                cases hz
              | succ c1=>exact putV_other hp (fun e=>hm2 (by simp only [blkV,e]))
             ·cases hv'
            ·split at hv'
             ·split at hv'
              · cases hv';exact newV_other hk
              · cases hv'
             ·split at hv'
              · split at hv'
                ·cases hv';exact newV_other hk
                ·cases hv'
              · cases hv'
           ·unfold appSu at hv'
            split at hv'
            ·split at hv'
             ·cases hv'
              rw [H.get_new,H.get_put,if_neg (show ¬ k=(h.put _ Blk.gone).n from Nat.ne_of_lt hk),if_neg (fun e=>hm2 (by simp only [blkV,e]))]
             ·cases hv'
            ·cases hv'
           ·split at hv'
            ·cases hv';exact newV_other hk
            ·cases hv'
           ·cases hv'
        ·cases hv
       ·cases hv
      ·cases hv
     ·rw [(pur_some hv).2]
     ·rw [(pur_some hv).2]
     ·cases hv
    ·cases hv
   ·cases hv
 | _=>cases he
def FlR (P:Program) (env:Env) (h:H) (v:V) (h':H) (w:World) (s:Sem Value):Prop:=
 ∃ vs C t r,h'=newV h vs t∧VRs env vs (C.toList.take vs.length)∧s.run P w= .ok r (w.alloc (.cells C t))∧∀ env':Env,env' h.n=some ⟨w.heap.size,0,C.size⟩→VR env' v r
theorem boxF {env:Env} {h h':H} {w:World} {t:TypeId} {x v:V} {u:Value} (hb:boxV h t x=some (v,h')) (hu:VR env x u):FlR P env h v h' w (Instr.box t u):=by
 unfold boxV at hb
 split at hb
 ·cases hb
 ·rename_i hx
  cases hb
  have hc:=Qds hu (by simpa using hx)
  exact ⟨_,u.cells,t,_,rfl,by rw [←hc.length,List.take_length];exact hc,rfl,fun env' he=>VR.mkp he⟩
theorem allocF {env:Env} {h h':H} {w:World} {t:TypeId} {v:V} (hb:allocV P h t=some (v,h')):FlR P env h v h' w (Instr.alloc t true (.tuple #[])):=by
 unfold allocV at hb
 split at hb
 ·rename_i z hz
  obtain ⟨z0,rfl,hz0⟩:=zeroO_ok hz
  obtain ⟨vs,C,t',r,h1,h2,h3,h4⟩:=boxF (P:=P) (w:=w) hb (ofC_ok env z0)
  refine ⟨vs,C,t',r,h1,h2,?_,h4⟩
  simp only [Instr.alloc,Sem.run_bind,hz0 w,Result.andThen_ok]
  exact h3
 ·cases hb
theorem buildSliceF {env:Env} {h h':H} {w:World} {t:TypeId} {len:Nat} {ps:List (Nat × V)} {us:Array (Nat × Value)} {v:V} (hv:Qcq P h t len ps=some (v,h')) (hp:PVR env ps us.toList):
  FlR P env h v h' w (Instr.buildSlice t len us):=by
 unfold Qcq at hv
 split at hv
 ·rename_i e he
  split at hv
  ·rename_i s bt zs hel
   obtain ⟨i,z,E⟩:=elO_ok hel
   split at hv
   ·rename_i hlen
    split at hv
    ·rename_i c hf
     cases hv
     have hzs:=E.zsize
     have hrep:=rep_ok (E.cells env) (by rw [hzs];exact E.pos) len
     rw [hzs] at hrep
     obtain ⟨ru,h1,h2⟩:=fillV_ok hf hp hrep
     refine ⟨c,ru,e,.slice (some ⟨w.heap.size,0,none⟩) len len,rfl,by rw [←h2.length,List.take_length];exact h2,?_,fun env' he'=>by simp only [VR];exact ⟨_,he',rfl⟩⟩
     have hs0: ¬ (len * s > 2 ^ 24):=by omega
     by_cases hn:len * s=0
     ·have hl0:len=0:=by
       rcases Nat.mul_eq_zero.1 hn with h0 | h0
       ·exact h0
       ·have:=E.pos;omega
      subst hl0
      have h5:(Array.range (0 * s)).map (z.cells[· % s]!)= #[]:=by rw [Nat.zero_mul];simp [Array.range_zero']
      rw [h5] at h1
      simp only [Instr.buildSlice,Sem.run_bind,run_underlying (Qbb he),Result.andThen_ok,sizeOf,typeInfo,E.info,E.size,Sem.run_pure,run_program,hs0,if_false,Nat.zero_mul,if_true]
      simp [h1,newRow,Array.range_zero']
     ·simp only [Instr.buildSlice,Sem.run_bind,run_underlying (Qbb he),Result.andThen_ok,sizeOf,typeInfo,E.info,E.size,Sem.run_pure,run_program,hs0,if_false,hn]
      simp [zeroValue,typeInfo,E.info,E.zero,hzs,h1,newRow]
    ·cases hv
   ·cases hv
  ·cases hv
 ·cases hv
theorem makeSliceF {env:Env} {h h':H} {w:World} {t:TypeId} {x y v:V} {u z:Value} (hv:Qdn P h t x y=some (v,h')) (hu:VR env x u) (hz:VR env y z):
  FlR P env h v h' w (Instr.makeSlice t u z):=by
 unfold Qdn at hv
 split at hv
 ·rename_i kl l kc c
  simp only [VR] at hu hz
  subst hu hz
  split at hv
  ·rename_i e he
   split at hv
   ·rename_i s bt zs hel
    obtain ⟨i,z,E⟩:=elO_ok hel
    split at hv
    ·rename_i hc
     obtain ⟨h0,h1,h2⟩:=hc
     cases hv
     have hb:(i.bytes:Int)≤1000000:=by have:=E.btle;have:=E.bytes;omega
     have hbytes:(i.bytes:Int) * c≤281474976710656:=by
      have:(i.bytes:Int) * c≤1000000 * 1000000:=Int.mul_le_mul hb h2 (by omega) (by omega)
      omega
     have hrun:=run_make (P:=P) w t e i z (Qbb he) E.info E.zero kl kc l c h0 h1 hbytes (by omega)
     have hrep:=rep_ok (E.cells env) (by rw [E.zsize];exact E.pos) c.toNat
     have e1:madeCells z.cells (c.toNat * i.size)=(Array.range (c.toNat * z.cells.size)).map (z.cells[· % z.cells.size]!):=by
      unfold madeCells
      rw [E.zsize,E.size]
     refine ⟨_,madeCells z.cells (c.toNat * i.size),e,_,rfl,?_,hrun,fun env' he'=>by simp only [VR];exact ⟨_,he',rfl⟩⟩
     rw [e1, ←hrep.length,List.take_length]
     exact hrep
    ·cases hv
   ·cases hv
  ·cases hv
 ·cases hv
theorem opF {env:Env} {h h':H} {w:World} {r:Operand→V} {ρ:Operand→Value} {o:Oper} {v:V} (hf:flB o.op=true) (E:∀ x,VR env (r x) (ρ x)) (hv:opV P h r o.op=some (v,h')):
   ∃ vs C t u,h'=newV h vs t∧VRs env vs (C.toList.take vs.length)∧(execOp ρ o).run P w= .ok (.value u) (w.alloc (.cells C t))∧∀ env':Env,env' h.n=some ⟨w.heap.size,0,C.size⟩→VR env' v u:=by
 obtain ⟨dst,op,type,pos,after,guard⟩:=o
 have out:∀ {s:Sem Value},(execOp ρ ⟨dst,op,type,pos,after,guard⟩=(do pure (.value (←s))))→FlR P env h v h' w s→∃ vs C t u,h'=newV h vs t∧VRs env vs (C.toList.take vs.length)∧(execOp ρ ⟨dst,op,type,pos,after,guard⟩).run P w= .ok (.value u) (w.alloc (.cells C t))∧∀ env':Env,env' h.n=some ⟨w.heap.size,0,C.size⟩→VR env' v u:=by
   rintro s he ⟨vs,C,t,u,h1,h2,h3,h4⟩
   exact ⟨vs,C,t,u,h1,h2,by rw [he,Sem.run_bind,h3];rfl,h4⟩
 cases op with
 | alloc t=>exact out rfl (allocF hv)
 | box t x=>exact out rfl (boxF hv (E x))
 | buildSlice t n ps=>exact out rfl (buildSliceF hv (by simpa using pmap_ok E ps.toList))
 | makeSlice t l c=>exact out rfl (makeSliceF hv (E l) (E c))
 | _=>cases hf
end Go.Ev
namespace Go.Ev
open Go
set_option linter.unusedVariables false
set_option linter.unusedSimpArgs false
variable {P:Program} {w0:World}
structure HRP (w0:World) (env:Env) (h:H) (w:World) (Q:Nat→Blk→Prop):Prop where
 hr:HR w0 env h w
 q:∀ n y,Q n y→y.live∧h.fl≤n∧n < h.n∧∃ e,env n=some e∧BR w0.heap.size env e y w∧∀ b x e',h.get b=some x→x.live→env b=some e'→e'.r≠e.r
 inj:∀ n y n' y' e e',Q n y→Q n' y'→env n=some e→env n'=some e'→e.r=e'.r→n=n'
theorem HRP.mono {env:Env} {h:H} {w:World} {Q Q':Nat→Blk→Prop} (hq:∀ n y,Q' n y→Q n y) (x:HRP w0 env h w Q):HRP w0 env h w Q':=
 ⟨x.hr,fun n y h=>x.q n y (hq n y h),fun n y n' y' e e' h1 h2=>x.inj n y n' y' e e' (hq _ _ h1) (hq _ _ h2)⟩
theorem HRP.merge {env:Env} {h:H} {w:World} {Q:Nat→Blk→Prop} (x:HRP w0 env h w Q) {n:Nat} {y:Blk} (hn:Q n y):HRP w0 env (h.put n y) w (fun n' y'=>Q n' y'∧n'≠n):=by
 obtain ⟨hl,hfl,hlt,e,he,hb,hne⟩:=x.q n y hn
 refine ⟨⟨x.hr.fresh,x.hr.lt,fun b z hz=>?_,fun b b' z z' eb eb' h1 h2 h3 h4 h5 h6 h7=>?_,x.hr.fl,x.hr.bel,x.hr.low⟩,fun n' y' ⟨hq,hnn⟩=>?_,fun a b c d f g h1 h2=>x.inj a b c d f g h1.1 h2.1⟩
 ·rw [H.get_put] at hz
  by_cases hk:b=n
  ·subst hk;rw [if_pos rfl] at hz;cases hz;exact ⟨e,he,hb⟩
  ·rw [if_neg hk] at hz;exact x.hr.get b z hz
 ·rw [H.get_put] at h1 h2
  by_cases hk:b=n
  ·by_cases hk':b'=n
   ·rw [hk,hk']
   ·rw [if_neg hk'] at h2
    subst hk
    obtain rfl:=Option.some.inj (he.symm.trans h5)
    exact absurd h7.symm (hne b' z' eb' h2 h4 h6)
  ·rw [if_neg hk] at h1
   by_cases hk':b'=n
   ·subst hk'
    obtain rfl:=Option.some.inj (he.symm.trans h6)
    exact absurd h7 (hne b z eb h1 h3 h5)
   ·rw [if_neg hk'] at h2
    exact x.hr.inj b b' z z' eb eb' h1 h2 h3 h4 h5 h6 h7
 ·obtain ⟨k1,k2,k3,e',he',hb',hne'⟩:=x.q n' y' hq
  refine ⟨k1,k2,k3,e',he',hb',fun b z eb hz hzl hbe hr=>?_⟩
  rw [H.get_put] at hz
  by_cases hk:b=n
  ·subst hk
   obtain rfl:=Option.some.inj (he.symm.trans hbe)
   exact hnn (x.inj _ _ _ _ _ _ hq hn he' he hr.symm)
  ·rw [if_neg hk] at hz
   exact hne' b z eb hz hzl hbe hr
theorem HRP.notWr {env:Env} {h:H} {w:World} {Q:Nat→Blk→Prop} (x:HRP w0 env h w Q) {n:Nat} {y:Blk} (hn:Q n y) {e:Pl} (he:env n=some e): ¬ Wr env h e.r:=by
 obtain ⟨hl,hfl,hlt,e1,he1,hb,hne⟩:=x.q n y hn
 obtain rfl:=Option.some.inj (he.symm.trans he1)
 rintro ⟨b,z,eb,h1,h2,h3,h4,h5⟩
 exact hne b z eb h1 h2 h4 h5
theorem HRP.step {env env':Env} {h h':H} {w w':World} {Q:Nat→Blk→Prop} (x:HRP w0 env h w Q) (hr:HR w0 env' h' w') (g:Gn env h w env' w') (hh:HG h h'):HRP w0 env' h' w' Q:=by
 refine ⟨hr,fun n y hq=>?_,fun n y n' y' e e' h1 h2 h3 h4 h5=>?_⟩
 ·obtain ⟨hl,hfl,hlt,e,he,hb,hne⟩:=x.q n y hq
  refine ⟨hl,by rw [hh.fl];exact hfl,Nat.lt_of_lt_of_le hlt hh.n,e,g.le _ _ he,?_,fun b z eb hz hzl hbe hr'=>?_⟩
  ·exact (hb.same (g.frame _ (x.hr.lt _ _ he) (x.notWr hq he))).mono g.le
  ·rcases g.ext b eb hbe with h1 | h1 | h1
   ·have hbn:b < h.n:=by
     rcases Nat.lt_or_ge b h.n with h2 | h2
     ·exact h2
     ·rw [x.hr.fresh b h2] at h1;cases h1
    obtain ⟨z2,h3,h4⟩:=hh.live b z hbn hz hzl
    exact hne b z2 eb h3 h4 h1 hr'
   ·have:=x.hr.lt _ _ he;omega
   ·rw [hr'] at h1;exact x.notWr hq he h1
 ·obtain ⟨_,_,k1,_⟩:=x.q n y h1
  obtain ⟨_,_,k2,_⟩:=x.q n' y' h2
  rw [g.old _ k1] at h3
  rw [g.old _ k2] at h4
  exact x.inj n y n' y' e e' h1 h2 h3 h4 h5
theorem HRP.add {env:Env} {h:H} {w:World} {Q:Nat→Blk→Prop} (x:HRP w0 env h w Q) {n:Nat} (hn:env n=none) (hlt:n < h.n) (hfl:h.fl≤n) {vs:List V} {C:Array Value} {t:Nat} (hv:VRs env vs (C.toList.take vs.length)):
  HRP w0 (env.ext n ⟨w.heap.size,0,C.size⟩) h (w.alloc (.cells C t)) (fun n' y'=>Q n' y'∨(n'=n∧y'= .cells vs t))∧Env.le env (env.ext n ⟨w.heap.size,0,C.size⟩)∧
   (∀ {a:Env} {h0:H} {u:World},h0.n≤n→Gn a h0 u env w→Gn a h0 u (env.ext n ⟨w.heap.size,0,C.size⟩) (w.alloc (.cells C t))):=by
 have hle:=Env.ext_le hn ⟨w.heap.size,0,C.size⟩
 have hself:=Env.ext_self env n ⟨w.heap.size,0,C.size⟩
 have old:∀ b e2,b≠n→(env.ext n ⟨w.heap.size,0,C.size⟩) b=some e2→env b=some e2:=fun b e2 hb he=>by unfold Env.ext at he;rw [if_neg hb] at he;exact he
 have inn:∀ b z,h.get b=some z→b≠n:=fun b z hz e=>by
  obtain ⟨e2,h1,_⟩:=x.hr.get b z hz
  rw [e,hn] at h1
  cases h1
 have qnn:∀ b z,Q b z→b≠n:=fun b z hz e=>by
  obtain ⟨_,_,_,e2,h1,_⟩:=x.q b z hz
  rw [e,hn] at h1
  cases h1
 have hsame:∀ k,k < w.heap.size→(w.alloc (.cells C t)).heap[k]? =w.heap[k]? :=fun k hk=>by first | exact heap_alloc_old w _ k hk | exact heap_alloc_old w _ hk
 have hsz:w.heap.size≤(w.alloc (.cells C t)).heap.size:=by simp
 have hB:BR w0.heap.size (env.ext n ⟨w.heap.size,0,C.size⟩) ⟨w.heap.size,0,C.size⟩ (.cells vs t) (w.alloc (.cells C t)):=⟨C,_,heap_alloc_new w _,rfl,by rw [List.drop_zero];exact VRs.mono hle _ _ hv,.inl rfl⟩
 have hos:(w.alloc (.cells C t)).os=w.os:=rfl
 have htp:(w.alloc (.cells C t)).tape=w.tape:=rfl
 have hou:(w.alloc (.cells C t)).output=w.output:=rfl
 have hlt2:w.heap.size < (w.alloc (.cells C t)).heap.size:=by simp
 generalize w.alloc (.cells C t)=w2 at *
 refine ⟨⟨⟨fun b hb=>?_,fun b e2 hb=>?_,fun b z hz=>?_,fun b b' z z' eb eb' h1 h2 h3 h4 h5 h6 h7=>?_,x.hr.fl,⟨hos.trans x.hr.bel.os,htp.trans x.hr.bel.tape,hou.trans x.hr.bel.output,Nat.le_trans x.hr.bel.size hsz,fun k hk=>by rw [hsame k (Nat.lt_of_lt_of_le hk x.hr.bel.size)];exact x.hr.bel.block k hk⟩,fun b e2 hb hf2=>?_⟩,fun n' y' hq=>?_,fun n1 y1 n2 y2 e1 e2 h1 h2 h3 h4 h5=>?_⟩,hle,fun {a h0 u} hn0 g=>⟨Env.le_trans g.le hle,hos.trans g.os,htp.trans g.tape,hou.trans g.output,Nat.le_trans g.size hsz,fun b e2 hb=>?_,fun k hk hw=>(hsame k (Nat.lt_of_lt_of_le hk g.size)).trans (g.frame k hk hw),fun b hb=>?_⟩⟩
 ·unfold Env.ext
  rw [if_neg (by omega)]
  exact x.hr.fresh b hb
 ·by_cases hk:b=n
  ·subst hk;rw [hself] at hb;cases hb;exact hlt2
  ·exact Nat.lt_of_lt_of_le (x.hr.lt b e2 (old b e2 hk hb)) hsz
 ·obtain ⟨e2,h1,h2⟩:=x.hr.get b z hz
  exact ⟨e2,hle _ _ h1,(h2.same (hsame _ (x.hr.lt b e2 h1))).mono hle⟩
 ·exact x.hr.inj b b' z z' eb eb' h1 h2 h3 h4 (old b eb (inn b z h1) h5) (old b' eb' (inn b' z' h2) h6) h7
 ·by_cases hk:b=n
  ·subst hk;rw [hself] at hb;cases hb;exact x.hr.bel.size
  ·exact x.hr.low b e2 (old b e2 hk hb) hf2
 ·rcases hq with hq | ⟨rfl,rfl⟩
  ·obtain ⟨k1,k2,k3,e2,k4,k5,k6⟩:=x.q n' y' hq
   exact ⟨k1,k2,k3,e2,hle _ _ k4,(k5.same (hsame _ (x.hr.lt _ _ k4))).mono hle,fun b z eb hz hzl hbe=>k6 b z eb hz hzl (old b eb (inn b z hz) hbe)⟩
  ·exact ⟨trivial,hfl,hlt,_,hself,hB,fun b z eb hz hzl hbe hr=>by
     have:=x.hr.lt b eb (old b eb (inn b z hz) hbe)
     rw [hr] at this
     exact Nat.lt_irrefl _ this⟩
 ·have one:∀ k z ek,(Q k z∨(k=n∧z= .cells vs t))→(env.ext n ⟨w.heap.size,0,C.size⟩) k=some ek→(Q k z∧k≠n∧env k=some ek∧ek.r < w.heap.size)∨(k=n∧ek.r=w.heap.size):=fun k z ek hk he=>by
   rcases hk with hk | ⟨rfl,rfl⟩
   · have h8:=old k ek (qnn k z hk) he
     exact .inl ⟨hk,qnn k z hk,h8,x.hr.lt k ek h8⟩
   · rw [hself] at he;cases he;exact .inr ⟨rfl,rfl⟩
  rcases one n1 y1 e1 h1 h3 with ⟨a1,a2,a3,a4⟩ | ⟨a1,a2⟩ <;> rcases one n2 y2 e2 h2 h4 with ⟨b1,b2,b3,b4⟩ | ⟨b1,b2⟩
  ·exact x.inj n1 y1 n2 y2 e1 e2 a1 b1 a3 b3 h5
  ·omega
  ·omega
  ·rw [a1,b1]
 ·by_cases hk:b=n
  ·subst hk;rw [hself] at hb;cases hb;exact .inr (.inl g.size)
  ·exact g.ext b e2 (old b e2 hk hb)
 ·rw [←g.old b hb]
  unfold Env.ext
  rw [if_neg (by omega)]
theorem HR.raise {env:Env} {h:H} {w:World} {k0:Nat} (x:HR w0 env h w) (hk:h.fl≤k0) (hn:k0≤h.n):HR w0 env (Ev.raise k0 h) w:=
 ⟨x.fresh,x.lt,x.get,x.inj,hn,x.bel,fun b e h1 h2=>x.low b e h1 (Nat.le_trans hk h2)⟩
theorem raise_wr {env:Env} {h:H} {k0 r:Nat} (hk:h.fl≤k0) (x:Wr env (Ev.raise k0 h) r):Wr env h r:=by
 obtain ⟨b,z,e,h1,h2,h3,h4,h5⟩:=x
 exact ⟨b,z,e,h1,h2,Nat.le_trans hk h3,h4,h5⟩
theorem HR.lower {env env':Env} {h h':H} {w w':World} {k0:Nat} (x:HR w0 env h w) (hk:h.fl≤k0) (hr:HR w0 env' h' w') (g:Gn env (Ev.raise k0 h) w env' w') (hh:HG (Ev.raise k0 h) h'):
  HR w0 env' ⟨h'.t,h'.n,h.fl⟩ w'∧Gn env h w env' w'∧HG h ⟨h'.t,h'.n,h.fl⟩∧∀ b,b < k0→h'.get b=h.get b:=by
 have hn:h.n≤h'.n:=hh.n
 refine ⟨⟨hr.fresh,hr.lt,hr.get,hr.inj,Nat.le_trans x.fl hn,hr.bel,fun b e h1 h2=>?_⟩,⟨g.le,g.os,g.tape,g.output,g.size,fun b e h1=>?_,fun k hk2 hw=>g.frame k hk2 (fun y=>hw (raise_wr hk y)),g.old⟩,⟨rfl,hn,fun b hb=>hh.low b (show b < k0 from Nat.lt_of_lt_of_le hb hk),fun b z hb hz hl=>hh.live b z hb hz hl⟩,fun b hb=>hh.low b hb⟩
 ·rcases g.ext b e h1 with h3 | h3 | h3
  ·exact x.low b e h3 h2
  ·exact Nat.le_trans x.bel.size h3
  ·obtain ⟨b2,z2,e2,q1,q2,q3,q4,q5⟩:=raise_wr hk h3
   rw [←q5]
   exact x.low b2 e2 q4 q3
 ·rcases g.ext b e h1 with h3 | h3 | h3
  ·exact .inl h3
  ·exact .inr (.inl h3)
  ·exact .inr (.inr (raise_wr hk h3))
end Go.Ev
namespace Go.Ev
open Go
set_option linter.unusedVariables false
set_option linter.unusedSimpArgs false
theorem bit_eq (m i:Nat):bit m i=m.testBit i:=by
 unfold bit
 show Nat.beq ((m >>> i) &&& 1) 1=_
 rw [Nat.testBit_eq_decide_div_mod_eq,Nat.and_one_is_mod,Nat.shiftRight_eq_div_pow]
 generalize m / 2 ^ i % 2=x
 by_cases h:x=1
 ·subst h;rfl
 ·rw [decide_eq_false h]
  cases hb:Nat.beq x 1 with
  | false=>rfl
  | true=>exact absurd (Nat.eq_of_beq_eq_true hb) h
theorem anB_eq (bf:List Nat) (i j:Nat):anB bf i j=(((bf[i]?).getD 0)).testBit j:=by
 unfold anB
 rw [bit_eq,Qbo]
theorem edgeF_bit (bf:List Nat) (j:Nat):∀ l:List Edge,(edgeF bf l).testBit j=true↔∃ e∈l,Region.binds .any e=true∧(e.on=j∨anB bf e.on j=true)
 | []=>by
   show (0:Nat).testBit j=true↔_
   simp
 | e :: l=>by
   have ih:=edgeF_bit bf j l
   have hs:edgeF bf (e :: l)=Bool.rec (edgeF bf l) (Nat.lor (Nat.lor (2 ^ e.on) ((lget bf e.on).getD 0)) (edgeF bf l)) (Region.binds .any e):=rfl
   rw [hs]
   cases hb:Region.binds .any e with
   | false=>
     show (edgeF bf l).testBit j=true↔_
     rw [ih]
     constructor
     ·rintro ⟨e',h1,h2⟩;exact ⟨e',List.mem_cons_of_mem _ h1,h2⟩
     ·rintro ⟨e',h1,h2,h3⟩
      rcases List.mem_cons.1 h1 with rfl | h4
      ·rw [hb] at h2;cases h2
      ·exact ⟨e',h4,h2,h3⟩
   | true=>
     show ((2 ^ e.on ||| (lget bf e.on).getD 0) ||| edgeF bf l).testBit j=true↔_
     rw [Nat.testBit_or,Nat.testBit_or,Nat.testBit_two_pow,Bool.or_eq_true,Bool.or_eq_true,ih,Qbo, ←anB_eq,decide_eq_true_eq]
     constructor
     ·rintro ((h1 | h1) | ⟨e',h1,h2⟩)
      ·exact ⟨e,List.mem_cons_self,hb,.inl h1⟩
      ·exact ⟨e,List.mem_cons_self,hb,.inr h1⟩
      ·exact ⟨e',List.mem_cons_of_mem _ h1,h2⟩
     ·rintro ⟨e',h1,h2,h3⟩
      rcases List.mem_cons.1 h1 with rfl | h4
      ·exact .inl h3
      ·exact .inr ⟨e',h4,h2,h3⟩
noncomputable def En:List Oper→Nat→Nat
 | [],_=>0
 | _ :: _,0=>0
 | o :: l,j+1=>(if effB o.op=true then 1 else 0)+En l j
theorem En_zero:∀ l,En l 0=0
 | []=>rfl
 | _ :: _=>rfl
theorem Qce (o:Oper) (l:List Oper) (j:Nat):En (o :: l) (j+1)=(if effB o.op=true then 1 else 0)+En l j:=rfl
theorem En_succ {o:Oper}:∀ (l:List Oper) (j:Nat),l[j]? =some o→En l (j+1)=En l j+if effB o.op=true then 1 else 0:=by
 intro l
 induction l with
 | nil=>intro j h;simp at h
 | cons x l ih=>
   intro j h
   cases j with
   | zero=>
     simp only [List.getElem?_cons_zero,Option.some.injEq] at h
     subst h
     rw [Qce,En_zero,En_zero,Nat.add_comm]
   | succ j=>
     have:=ih j (by simpa using h)
     rw [Qce,Qce,this]
     omega
theorem En_mono:∀ (l:List Oper) (j k:Nat),j≤k→En l j≤En l k:=by
 intro l
 induction l with
 | nil=>intro j k _;exact Nat.le_refl _
 | cons x l ih=>
   intro j k h
   cases j with
   | zero=>rw [En_zero];exact Nat.zero_le _
   | succ j=>
     cases k with
     | zero=>omega
     | succ k=>
       have:=ih j k (by omega)
       rw [Qce,Qce]
       omega
theorem En_find:∀ (l:List Oper) (k c:Nat),c < En l k→∃ j o,j < k∧l[j]? =some o∧effB o.op=true∧En l j=c:=by
 intro l
 induction l with
 | nil=>intro k c h;exact absurd h (Nat.not_lt_zero _)
 | cons o l ih=>
   intro k c h
   cases k with
   | zero=>rw [En_zero] at h;omega
   | succ k=>
     rw [Qce] at h
     by_cases he:effB o.op=true
     ·rw [if_pos he] at h
      cases c with
      | zero=>exact ⟨0,o,by omega,rfl,he,En_zero _⟩
      | succ c=>
        obtain ⟨j,x,h1,h2,h3,h4⟩:=ih k c (by omega)
        exact ⟨j+1,x,by omega,by simpa using h2,h3,by rw [Qce,if_pos he,h4];omega⟩
     ·rw [if_neg he] at h
      obtain ⟨j,x,h1,h2,h3,h4⟩:=ih k c (by omega)
      exact ⟨j+1,x,by omega,by simpa using h2,h3,by rw [Qce,if_neg he,h4];omega⟩
theorem stF_ok (m:Nat):∀ (l:List Oper) (i s r:Nat),r≤s→r≤stF m l i s r∧(∀ j o,l[j]? =some o→effB o.op=true→bit m (i+j)=true→s+En l j < stF m l i s r)∧
   (stF m l i s r=r∨∃ j o,l[j]? =some o∧effB o.op=true∧bit m (i+j)=true∧stF m l i s r=s+En l j+1)
 | [],i,s,r,h=>⟨Nat.le_refl _,fun j o hj=>by simp at hj,.inl rfl⟩
 | o :: l,i,s,r,h=>by
   have hs:stF m (o :: l) i s r=Bool.rec (stF m l (i+1) s r) (stF m l (i+1) (s+1) (Bool.rec r (s+1) (bit m i))) (effB o.op):=rfl
   rw [hs]
   cases he:effB o.op with
   | false=>
     obtain ⟨h1,h2,h3⟩:=stF_ok m l (i+1) s r h
     refine ⟨h1,fun j x hj hx hb=>?_,?_⟩
     · cases j with
       | zero=>simp only [List.getElem?_cons_zero,Option.some.injEq] at hj;subst hj;rw [he] at hx;cases hx
       | succ j=>
         have:=h2 j x (by simpa using hj) hx (by rw [show i+1+j=i+(j+1) by omega];exact hb)
         rw [Qce,he]
         simpa using this
     · rcases h3 with h3 | ⟨j,x,h3,h4,h5,h6⟩
       · exact .inl h3
       · exact .inr ⟨j+1,x,by simpa using h3,h4,by rw [show i+(j+1)=i+1+j by omega];exact h5,by rw [Qce,he];simpa using h6⟩
   | true=>
     show r≤stF m l (i+1) (s+1) (Bool.rec r (s+1) (bit m i))∧_
     cases hb:bit m i with
     | false=>
       show r≤stF m l (i+1) (s+1) r∧_
       obtain ⟨h1,h2,h3⟩:=stF_ok m l (i+1) (s+1) r (by omega)
       refine ⟨h1,fun j x hj hx hb2=>?_,?_⟩
       · cases j with
         | zero=>rw [Nat.add_zero,hb] at hb2;cases hb2
         | succ j=>
           have:=h2 j x (by simpa using hj) hx (by rw [show i+1+j=i+(j+1) by omega];exact hb2)
           show s+En (o :: l) (j+1) < stF m l (i+1) (s+1) r
           rw [Qce,if_pos he]
           omega
       · rcases h3 with h3 | ⟨j,x,h3,h4,h5,h6⟩
         · exact .inl h3
         · exact .inr ⟨j+1,x,by simpa using h3,h4,by rw [show i+(j+1)=i+1+j by omega];exact h5,by
            show stF m l (i+1) (s+1) r=_
            rw [Qce,if_pos he];omega⟩
     | true=>
       show r≤stF m l (i+1) (s+1) (s+1)∧_
       obtain ⟨h1,h2,h3⟩:=stF_ok m l (i+1) (s+1) (s+1) (Nat.le_refl _)
       refine ⟨by omega,fun j x hj hx hb2=>?_,?_⟩
       · cases j with
         | zero=>show s+En (o :: l) 0 < stF m l (i+1) (s+1) (s+1);rw [En_zero];omega
         | succ j=>
           have:=h2 j x (by simpa using hj) hx (by rw [show i+1+j=i+(j+1) by omega];exact hb2)
           show s+En (o :: l) (j+1) < stF m l (i+1) (s+1) (s+1)
           rw [Qce,if_pos he]
           omega
       · rcases h3 with h3 | ⟨j,x,h3,h4,h5,h6⟩
         · exact .inr ⟨0,o,rfl,he,by simpa using hb,by show stF m l (i+1) (s+1) (s+1)=_;rw [En_zero];omega⟩
         · exact .inr ⟨j+1,x,by simpa using h3,h4,by rw [show i+(j+1)=i+1+j by omega];exact h5,by
            show stF m l (i+1) (s+1) (s+1)=_
            rw [Qce,if_pos he];omega⟩
structure Od (ops:List Oper) (bf:List Nat) (l:List Row):Prop where
 len:l.length=ops.length
 row:∀ i o,ops[i]? =some o→∃ row,l[i]? =some row∧row.o=o∧row.i=i∧(∀ j,bit row.anc j=anB bf i j)∧row.eff=effB o.op∧row.rd=rdB o.op∧row.fl=(if flB o.op=true then some i else none)∧
  (∀ j x,ops[j]? =some x→effB x.op=true→anB bf i j=true→En ops j < row.st)∧(row.st=0∨∃ j x,ops[j]? =some x∧effB x.op=true∧anB bf i j=true∧row.st=En ops j+1)∧
  (row.full=true→∀ j x,ops[j]? =some x→i≠j→rdB x.op=true→anB bf i j=true∨anB bf j i=true)∧
  (row.half=true→∀ j x r2,ops[j]? =some x→l[j]? =some r2→i≠j→rdB x.op=true→anB bf i j=true∨anB bf j i=true∨r2.st=0)
 lt:∀ i o,ops[i]? =some o→∀ j,anB bf i j=true→j < i
 edge:∀ i o,ops[i]? =some o→∀ e∈o.after.toList,Region.binds .any e=true→anB bf i e.on=true
 down:∀ i o,ops[i]? =some o→∀ j,anB bf i j=true→∃ e∈o.after.toList,Region.binds .any e=true∧(e.on=j∨anB bf e.on j=true)
 pair:∀ i j a b,ops[i]? =some a→ops[j]? =some b→i≠j→(anB bf i j=true∨anB bf j i=true)∨(clash ops a b=false∧clash ops b a=false∧¬ (effB a.op=true∧effB b.op=true))
theorem beq_false {i j:Nat} (h:i≠j):Nat.beq i j=false:=by
 cases hb:Nat.beq i j with
 | false=>rfl
 | true=>exact absurd (Nat.eq_of_beq_eq_true hb) h
theorem zip_mem {ops:List Oper} {i:Nat} {o:Oper} (h:ops[i]? =some o):(o,i)∈ops.zipIdx:=by
 rw [List.mem_iff_getElem?]
 exact ⟨i,by rw [List.getElem?_zipIdx,h];simp⟩
theorem drawO_ok {ops:Array Oper} {l:List Row} (h:drawO ops=some l):∃ bf,Od ops.toList bf l:=by
 unfold drawO at h
 split at h
 ·rename_i hok
  cases h
  refine ⟨befores ops,?_⟩
  generalize befores ops=bf at *
  generalize ops.toList=ops at *
  unfold orderOK at hok
  rw [List.all_eq_true] at hok
  have hedge:∀ i o,ops[i]? =some o→edgeOK bf o i=true:=fun i o h=>by
   have:=hok _ (zip_mem h)
   simp only [Bool.and_eq_true] at this
   exact this.1
  have hanc:∀ i o,ops[i]? =some o→∀ j,anB bf i j=true↔∃ e∈o.after.toList,Region.binds .any e=true∧(e.on=j∨anB bf e.on j=true):=fun i o h j=>by
   have h1:=hedge i o h
   unfold edgeOK at h1
   rw [Bool.and_eq_true] at h1
   rw [←edgeF_bit, ←Nat.eq_of_beq_eq_true h1.1,anB_eq,Qbo]
  refine ⟨by simp [rows],fun i o h=>?_,fun i o h j hj=>?_,fun i o h e he hb=>(hanc i o h e.on).2 ⟨e,he,hb,.inl rfl⟩,fun i o h j hj=>(hanc i o h j).1 hj,fun i j a b ha hb hij=>?_⟩
  ·refine ⟨⟨o,i,(lget bf i).getD 0,effB o.op,rdB o.op,stF ((lget bf i).getD 0) ops 0 0 0,(ops.zipIdx).all fun (b,j)=>Nat.beq i j || !rdB b.op || Qbi bf i j,Bool.rec none (some i) (flB o.op),Bool.rec (Bool.rec false ((ops.zipIdx).all fun (b,j)=>Nat.beq i j || !rdB b.op || Qbi bf i j || Nat.beq (stF ((lget bf j).getD 0) ops 0 0 0) 0) (callB o.op)) false ((ops.zipIdx).all fun (b,j)=>Nat.beq i j || !rdB b.op || Qbi bf i j)⟩,?_,rfl,rfl,fun j=>rfl,rfl,rfl,?_,fun j x hj hx hb=>?_,?_,fun hf j x hj hij hx=>?_,fun hf j x r2 hj hj2 hij hx=>?_⟩
   ·simp only [rows,List.getElem?_map,List.getElem?_zipIdx,h,Option.map_some,Nat.zero_add]
   ·cases flB o.op <;> rfl
   ·have:=(stF_ok ((lget bf i).getD 0) ops 0 0 0 (Nat.le_refl _)).2.1 j x hj hx (by rw [Nat.zero_add];exact hb)
    simpa using this
   ·rcases (stF_ok ((lget bf i).getD 0) ops 0 0 0 (Nat.le_refl _)).2.2 with h3 | ⟨j,x,h3,h4,h5,h6⟩
    ·exact .inl h3
    ·exact .inr ⟨j,x,h3,h4,by rw [Nat.zero_add] at h5;exact h5,by simpa using h6⟩
   ·rw [List.all_eq_true] at hf
    have:=hf _ (zip_mem hj)
    simp only [beq_false hij,hx,Bool.false_or,Bool.not_true,Qbi,Bool.or_eq_true] at this
    exact this.symm
   ·have hh:((ops.zipIdx).all fun (b,j)=>Nat.beq i j || !rdB b.op || Qbi bf i j || Nat.beq (stF ((lget bf j).getD 0) ops 0 0 0) 0)=true:=by
     revert hf
     generalize ((ops.zipIdx).all fun (b,j)=>Nat.beq i j || !rdB b.op || Qbi bf i j || Nat.beq (stF ((lget bf j).getD 0) ops 0 0 0) 0)=X
     generalize ((ops.zipIdx).all fun (b,j)=>Nat.beq i j || !rdB b.op || Qbi bf i j)=Y
     cases Y with
     | true=>intro hf;cases hf
     | false=>cases callB o.op with
       | false=>intro hf;cases hf
       | true=>exact id
    rw [List.all_eq_true] at hh
    have:=hh _ (zip_mem hj)
    simp only [beq_false hij,hx,Bool.false_or,Bool.not_true,Qbi,Bool.or_eq_true] at this
    simp only [rows,List.getElem?_map,List.getElem?_zipIdx,hj,Option.map_some,Nat.zero_add,Option.some.injEq] at hj2
    rw [←hj2]
    rcases this with (h1 | h1) | h1
    ·exact .inr (.inl h1)
    ·exact .inl h1
    ·exact .inr (.inr (Nat.eq_of_beq_eq_true h1))
  ·have h1:=hedge i o h
   unfold edgeOK at h1
   rw [Bool.and_eq_true] at h1
   have h2:=Nat.eq_of_beq_eq_true h1.2
   rcases Nat.lt_or_ge j i with h3 | h3
   ·exact h3
   ·rw [anB_eq, ←Qbo] at hj
    have h4:((lget bf i).getD 0 >>> i).testBit (j - i)=true:=by
     rw [Nat.testBit_shiftRight,show i+(j - i)=j by omega]
     exact hj
    have h5:(lget bf i).getD 0 >>> i=0:=h2
    rw [h5] at h4
    simp at h4
  ·have h1:=hok _ (zip_mem ha)
   simp only [Bool.and_eq_true] at h1
   have h2:=h1.2
   rw [List.all_eq_true] at h2
   have h3:=h2 _ (zip_mem hb)
   simp only [beq_false hij,Bool.false_or,Bool.or_eq_true,Bool.not_eq_true',Qbi] at h3
   rcases h3 with (h3 | h3) | h3
   ·exact .inl (.inr h3)
   ·exact .inl (.inl h3)
   ·simp only [Bool.or_eq_false_iff] at h3
    refine .inr ⟨h3.1.1,h3.1.2,fun ⟨h4,h5⟩=>?_⟩
    rw [h4,h5] at h3
    cases h3.2
 ·cases h
end Go.Ev
namespace Go.Ev
open Go
set_option linter.unusedVariables false
set_option linter.unusedSimpArgs false
noncomputable def Qdt (P:Program) (go:Task→Option Out) (n0 N:Nat) (ops:List Oper) (row:Row) (tm:TT V) (S:Ms):Option (TT V × Ms):=
 match S.hs with
 | []=>none
 | (h,_) :: _=>match wantV ops (tget tm) row.o with
   | some true=>match oneD P go n0 (ev0 tm) row S h with
     | some (v,S')=>match putT N tm v row.o.dst with
       | some tm'=>some (tm',S')
       | none=>none
     | none=>none
   | some false=>match putT N tm (.tup []) row.o.dst with
     | some tm'=>some (tm',skipS row S h)
     | none=>none
   | none=>none
theorem runRow_eq {P:Program} {go:Task→Option Out} {n0 N:Nat} {ops:List Oper} {row:Row} {k:TT V→Ms→Option (TT V × Ms)} {tm:TT V} {S:Ms} {z:TT V × Ms} (h:Qcx P go n0 N ops row k tm S=some z):
  ∃ tm' S',Qdt P go n0 N ops row tm S=some (tm',S')∧k tm' S'=some z:=by
 unfold Qcx at h
 split at h
 ·cases h
 ·rename_i g m rest hh
  split at h
  ·rename_i hw
   split at h
   ·rename_i v S1 hv
    split at h
    ·rename_i tm1 hp
     exact ⟨tm1,S1,by simp only [Qdt,hh,hw,hv,hp],h⟩
    ·cases h
   ·cases h
  ·rename_i hw
   split at h
   ·rename_i tm1 hp
    exact ⟨tm1,skipS row S g,by simp only [Qdt,hh,hw,hp],h⟩
   ·cases h
  ·cases h
theorem runRows_log {P:Program} {go:Task→Option Out} {n0 N:Nat} {ops:List Oper}:∀ {l:List Row} {tm:TT V} {S:Ms} {z:TT V × Ms},Qdf P go n0 N ops l tm S=some z→
   ∃ (T:Nat→TT V) (M:Nat→Ms),T 0=tm∧M 0=S∧T l.length=z.1∧M l.length=z.2∧∀ i row,l[i]? =some row→Qdt P go n0 N ops row (T i) (M i)=some (T (i+1),M (i+1))
 | [],tm,S,z,h=>by
   cases h
   exact ⟨fun _=>tm,fun _=>S,rfl,rfl,rfl,rfl,fun i row h=>by simp at h⟩
 | row :: l,tm,S,z,h=>by
   obtain ⟨tm',S',h1,h2⟩:=runRow_eq (k:=Qdf P go n0 N ops l) h
   obtain ⟨T,M,k1,k2,k3,k4,k5⟩:=runRows_log h2
   refine ⟨fun i=>match i with | 0=>tm | i+1=>T i,fun i=>match i with | 0=>S | i+1=>M i,rfl,rfl,k3,k4,fun i r hr=>?_⟩
   cases i with
   | zero=>
     simp only [List.getElem?_cons_zero,Option.some.injEq] at hr
     subst hr
     show Qdt P go n0 N ops row tm S=some (T 0,M 0)
     rw [h1,k1,k2]
   | succ i=>exact k5 i r (by simpa using hr)
inductive Did (P:Program) (go:Task→Option Out) (n0:Nat) (r:Operand→V) (row:Row) (S:Ms) (h:H):V→Ms→Prop
 | full (f:Operand) (xs:List Operand) (v:V) (h':H) (he:row.eff=true) (hc:Qbk row.o.op=some (f,xs)) (hf:row.full=true) (hg:go (.call (r f) (lmap r xs) (mergeA row.anc S.ps h))=some (.val v h')):
    Did P go n0 r row S h v ⟨(h',none) :: S.hs,S.ls,restA row.anc S.ps⟩
 | part (f:Operand) (xs:List Operand) (v:V) (h':H) (he:row.eff=true) (hc:Qbk row.o.op=some (f,xs)) (hg:go (.call (r f) (lmap r xs) (raise (kR S row (mergeA row.anc S.ps h)) (mergeA row.anc S.ps h)))=some (.val v h')):
    Did P go n0 r row S h v ⟨(⟨h'.t,h'.n,(mergeA row.anc S.ps h).fl⟩,none) :: S.hs,S.ls,restA row.anc S.ps⟩
 | eff (v:V) (h':H) (he:row.eff=true) (hc:Qbk row.o.op=none) (hf:Qdd row.anc (modO r row.o.op) S.ls=true) (hv:opV P (mergeA row.anc S.ps h) r row.o.op=some (v,h')):
    Did P go n0 r row S h v ⟨(h',modO r row.o.op) :: S.hs,S.ls,restA row.anc S.ps⟩
 | float (q:Nat) (v:V) (hf:H) (b:Blk) (he:row.eff=false) (hq:row.fl=some q) (hv:opV P ⟨.lf,n0+q,0⟩ r row.o.op=some (v,hf)) (hb:hf.get (n0+q)=some b):
    Did P go n0 r row S h v ⟨S.hs,S.ls,(row.i,n0+q,b) :: S.ps⟩
 | load (b:Nat) (g:H) (m:Option Nat) (v:V) (h':H) (he:row.eff=false) (hq:row.fl=none) (hr:row.rd=true) (hb:rdO r row.o.op=some b) (hm:freeMs b (llen S.hs - 1 - row.st) S.hs=true) (hg:lget S.hs (llen S.hs - 1 - row.st)=some (g,m)) (hv:opV P g r row.o.op=some (v,h')):
    Did P go n0 r row S h v ⟨S.hs,(row.i,b) :: S.ls,S.ps⟩
 | pure (v:V) (h':H) (he:row.eff=false) (hq:row.fl=none) (hr:row.rd=false) (hv:opV P h r row.o.op=some (v,h')):Did P go n0 r row S h v S
theorem oneD_did {P:Program} {go:Task→Option Out} {n0:Nat} {r:Operand→V} {row:Row} {S:Ms} {h:H} {v:V} {S':Ms} (hv:oneD P go n0 r row S h=some (v,S')):Did P go n0 r row S h v S':=by
 unfold oneD at hv
 split at hv
 ·rename_i he
  unfold effE effD at hv
  split at hv
  ·rename_i f xs hc
   split at hv
   ·rename_i hf
    unfold addH at hv
    split at hv
    ·rename_i hg
     cases hv
     exact .full f xs _ _ he hc hf (valO_some hg)
    ·cases hv
   ·unfold addH at hv
    split at hv
    ·rename_i hg
     cases hv
     unfold lower at hg
     split at hg
     ·rename_i hg2
      cases hg
      exact .part f xs _ _ he hc (valO_some hg2)
     ·cases hg
    ·cases hv
  ·rename_i hc
   split at hv
   ·rename_i hf
    unfold addH at hv
    split at hv
    ·rename_i hg
     cases hv
     exact .eff _ _ he hc hf hg
    ·cases hv
   ·cases hv
 ·rename_i he
  unfold plD at hv
  split at hv
  ·rename_i q hq
   unfold flD2 at hv
   split at hv
   ·split at hv
    ·rename_i b hb
     cases hv
     exact .float q _ _ _ he hq (by assumption) hb
    ·cases hv
   ·cases hv
  ·rename_i hq
   split at hv
   ·rename_i hr
    unfold rdD at hv
    split at hv
    ·rename_i b hb
     split at hv
     ·rename_i hm
      split at hv
      ·rename_i g m hg
       unfold keepS at hv
       split at hv
       ·rename_i hvv
        cases hv
        exact .load b g m _ _ he hq hr hb hm hg hvv
       ·cases hv
      ·cases hv
     ·cases hv
    ·cases hv
   ·rename_i hr
    unfold keepS at hv
    split at hv
    ·rename_i hvv
     cases hv
     exact .pure _ _ he hq hr hvv
    ·cases hv
theorem Qbx {P:Program} {go:Task→Option Out} {n0 N:Nat} {ops:List Oper} {row:Row} {tm tm':TT V} {S S':Ms} (hs:Qdt P go n0 N ops row tm S=some (tm',S')):
  ∃ h m rest,S.hs=(h,m) :: rest∧((wantV ops (tget tm) row.o=some false∧putT N tm (.tup []) row.o.dst=some tm'∧S'=skipS row S h)∨
   (wantV ops (tget tm) row.o=some true∧∃ v,Did P go n0 (ev0 tm) row S h v S'∧putT N tm v row.o.dst=some tm')):=by
 unfold Qdt at hs
 split at hs
 ·cases hs
 ·rename_i h m rest hh
  refine ⟨h,m,rest,hh,?_⟩
  split at hs
  ·rename_i hw
   split at hs
   · rename_i v S1 hv
     split at hs
     ·rename_i tm1 hp
      cases hs
      exact .inr ⟨hw,v,oneD_did hv,hp⟩
     ·cases hs
   · cases hs
  ·rename_i hw
   split at hs
   · rename_i tm1 hp
     cases hs
     exact .inl ⟨hw,hp,rfl⟩
   · cases hs
  ·cases hs
def gs (l:List (H × Option Nat)) (s:Nat):Option (H × Option Nat):=l.reverse[s]?
theorem gs_app (x l:List (H × Option Nat)) {s:Nat} (h:s < l.length):gs (x ++ l) s=gs l s:=by
 unfold gs
 rw [List.reverse_append,List.getElem?_append_left (by simpa using h)]
theorem gs_head (p:H × Option Nat) (l:List (H × Option Nat)):gs (p :: l) l.length=some p:=by
 unfold gs
 simp
theorem gs_lget {l:List (H × Option Nat)} {s:Nat} (h:s < l.length):lget l (llen l - 1 - s)=gs l s:=by
 unfold gs
 rw [Qbo,Qas,List.getElem?_reverse h]
theorem did_hs {P:Program} {go:Task→Option Out} {n0:Nat} {r:Operand→V} {row:Row} {S S':Ms} {h:H} {v:V} (d:Did P go n0 r row S h v S'):(row.eff=true∧∃ p,S'.hs=p :: S.hs)∨(row.eff=false∧S'.hs=S.hs):=by
 cases d with
 | full f xs v h' he hc hf hg=>exact .inl ⟨he,_,rfl⟩
 | part f xs v h' he hc hg=>exact .inl ⟨he,_,rfl⟩
 | eff v h' he hc hf hv=>exact .inl ⟨he,_,rfl⟩
 | float q v hf b he hq hv hb=>exact .inr ⟨he,rfl⟩
 | load b g m v h' he hq hr hb hm hg hv=>exact .inr ⟨he,rfl⟩
 | pure v h' he hq hr hv=>exact .inr ⟨he,rfl⟩
theorem step_hs {P:Program} {go:Task→Option Out} {n0 N:Nat} {ops:List Oper} {row:Row} {tm tm':TT V} {S S':Ms} (hs:Qdt P go n0 N ops row tm S=some (tm',S')):(row.eff=true∧∃ p,S'.hs=p :: S.hs)∨(row.eff=false∧S'.hs=S.hs):=by
 obtain ⟨h,m,rest,hh,h1 | h1⟩:=Qbx hs
 ·obtain ⟨_,_,rfl⟩:=h1
  cases he:row.eff with
  | true=>exact .inl ⟨rfl,(h,none),by simp only [skipS,he]⟩
  | false=>exact .inr ⟨rfl,by simp only [skipS,he]⟩
 ·obtain ⟨_,v,d,_⟩:=h1
  exact did_hs d
theorem putT_get {N:Nat} {tm tm':TT V} {v:V} {d:Option Nat} (h:putT N tm v d=some tm') (t:Nat):tget tm' t=if d=some t then v else tget tm t:=by
 unfold putT at h
 cases d with
 | none=>cases h;rfl
 | some d=>
   have h':Bool.rec (motive:=fun _=>Option (TT V)) none (some (tm.set d v)) (Nat.blt d N)=some tm':=h
   cases hb:Nat.blt d N with
   | false=>rw [hb] at h';cases h'
   | true=>
     rw [hb] at h'
     cases h'
     rw [tget_set]
     by_cases ht:t=d
     ·rw [if_pos ht,if_pos (by rw [ht])]
     ·rw [if_neg ht,if_neg (fun e=>ht (Option.some.inj e).symm)]
theorem putT_any {N:Nat} {tm tm':TT V} {v:V} {d:Option Nat} (h:putT N tm v d=some tm') (tm2:TT V):∃ tm3,putT N tm2 v d=some tm3:=by
 unfold putT at h ⊢
 cases d with
 | none=>exact ⟨_,rfl⟩
 | some d=>
   have h':Bool.rec (motive:=fun _=>Option (TT V)) none (some (tm.set d v)) (Nat.blt d N)=some tm':=h
   cases hb:Nat.blt d N with
   | false=>rw [hb] at h';cases h'
   | true=>exact ⟨tm2.set d v,by
      show Bool.rec (motive:=fun _=>Option (TT V)) none (some (tm2.set d v)) (Nat.blt d N)=_
      rw [hb]⟩
end Go.Ev
namespace Go.Ev
open Go
set_option linter.unusedVariables false
set_option linter.unusedSimpArgs false
theorem En_lt {ops:List Oper} {j i:Nat} {o:Oper} (ho:ops[j]? =some o) (he:effB o.op=true):En ops j < En ops i↔j < i:=by
 have h1:=En_succ ops j ho
 rw [if_pos he] at h1
 constructor
 ·intro h
  rcases Nat.lt_or_ge j i with h2 | h2
  ·exact h2
  ·have:=En_mono ops i j h2;omega
 ·intro h
  have:=En_mono ops (j+1) i h
  omega
theorem restA_mem {anc:Nat} {p:Nat × Nat × Blk}:∀ {ps:List (Nat × Nat × Blk)},p∈restA anc ps→p∈ps∧bit anc p.1=false
 | [],h=>by cases h
 | q :: ps,h=>by
   have hs:restA anc (q :: ps)=Bool.rec (q :: restA anc ps) (restA anc ps) (bit anc q.1):=rfl
   rw [hs] at h
   cases hb:bit anc q.1 with
   | true=>
     rw [hb] at h
     have:=restA_mem (show p∈restA anc ps from h)
     exact ⟨List.mem_cons_of_mem _ this.1,this.2⟩
   | false=>
     rw [hb] at h
     rcases List.mem_cons.1 (show p∈q :: restA anc ps from h) with rfl | h2
     ·exact ⟨List.mem_cons_self,hb⟩
     ·have:=restA_mem h2
      exact ⟨List.mem_cons_of_mem _ this.1,this.2⟩
theorem restA_sub {anc:Nat}:∀ ps:List (Nat × Nat × Blk),(restA anc ps).Sublist ps
 | []=>List.Sublist.refl _
 | q :: ps=>by
   have hs:restA anc (q :: ps)=Bool.rec (q :: restA anc ps) (restA anc ps) (bit anc q.1):=rfl
   rw [hs]
   cases hb:bit anc q.1 with
   | true=>exact (restA_sub ps).cons _
   | false=>exact (restA_sub ps).cons_cons _
section
variable (P:Program) (n0:Nat) (ops:List Oper) (bf:List Nat) (T:Nat→TT V)
def FL (i n:Nat) (y:Blk):Prop:=
 ∃ o,ops[i]? =some o∧flB o.op=true∧n=n0+i∧wantV ops (tget (T i)) o=some true∧∃ v hf,opV P ⟨.lf,n0+i,0⟩ (ev0 (T i)) o.op=some (v,hf)∧hf.get (n0+i)=some y
def Mg (c i:Nat):Prop:=∃ j o,ops[j]? =some o∧effB o.op=true∧wantV ops (tget (T j)) o=some true∧En ops j < c∧anB bf j i=true
end
structure Lg (P:Program) (go:Task→Option Out) (n0 N:Nat) (ops:List Oper) (bf:List Nat) (l:List Row) (T:Nat→TT V) (M:Nat→Ms):Prop where
 od:Od ops bf l
 st:∀ i row,l[i]? =some row→Qdt P go n0 N ops row (T i) (M i)=some (T (i+1),M (i+1))
 m0:(M 0).hs.length=1∧(M 0).ls=[]∧(M 0).ps=[]
 z:∃ g m,(M 0).hs=[(g,m)]∧g.n=n0+flN ops∧∀ b y,g.get b=some y→b < g.n
section
variable {P:Program} {go:Task→Option Out} {n0 N:Nat} {ops:List Oper} {bf:List Nat} {l:List Row} {T:Nat→TT V} {M:Nat→Ms} (L:Lg P go n0 N ops bf l T M)
include L
theorem Lg.find {i:Nat} (hi:i < ops.length):∃ o row,ops[i]? =some o∧l[i]? =some row∧row.o=o∧row.i=i∧(∀ j,bit row.anc j=anB bf i j)∧row.eff=effB o.op∧row.rd=rdB o.op∧row.fl=(if flB o.op=true then some i else none):=by
 have ho:ops[i]? =some ops[i]:=List.getElem?_eq_getElem hi
 obtain ⟨row,h1,h2,h3,h4,h5,h6,h7,_⟩:=L.od.row i _ ho
 exact ⟨_,row,ho,h1,h2,h3,h4,h5,h6,h7⟩
theorem Lg.hsLen:∀ i,i≤ops.length→(M i).hs.length=En ops i+1
 | 0,_=>by rw [En_zero];exact L.m0.1
 | i+1,hi=>by
   have ih:=Lg.hsLen i (by omega)
   obtain ⟨o,row,ho,hrow,rfl,hri,hanc,heff,hrd,hfl⟩:=L.find (i:=i) (by omega)
   rw [En_succ ops i ho]
   rcases step_hs (L.st i row hrow) with ⟨h1,p,h2⟩ | ⟨h1,h2⟩
   ·rw [if_pos (by rw [←heff,h1]),h2,List.length_cons,ih]
   ·rw [if_neg (by rw [←heff,h1];simp),h2,ih,Nat.add_zero]
theorem Lg.hsApp {i:Nat}:∀ j,i≤j→j≤ops.length→∃ x,(M j).hs=x ++ (M i).hs
 | 0,h,_=>by rw [Nat.le_zero.1 h];exact ⟨[],rfl⟩
 | j+1,h,hj=>by
   rcases Nat.lt_or_ge i (j+1) with h1 | h1
   ·obtain ⟨x,hx⟩:=Lg.hsApp (i:=i) j (by omega) (by omega)
    obtain ⟨o,row,ho,hrow,_⟩:=L.find (i:=j) (by omega)
    rcases step_hs (L.st j row hrow) with ⟨_,p,h2⟩ | ⟨_,h2⟩
    ·exact ⟨p :: x,by rw [h2,hx];rfl⟩
    ·exact ⟨x,by rw [h2,hx]⟩
   ·rw [show i=j+1 by omega];exact ⟨[],rfl⟩
omit L in
theorem kOf_app (p:H × Option Nat):∀ x:List (H × Option Nat),kOf (x ++ [p])=p.1.n
 | []=>rfl
 | [q]=>rfl
 | q :: q2 :: x=>by
   have:=kOf_app p (q2 :: x)
   show kOf (q2 :: x ++ [p])=_
   exact this
theorem Lg.kAt {i:Nat} (hi:i≤ops.length):kOf (M i).hs=n0+flN ops:=by
 obtain ⟨x,hx⟩:=L.hsApp i (Nat.zero_le _) hi
 obtain ⟨g,m,h1,h2,_⟩:=L.z
 rw [hx,h1,kOf_app,h2]
theorem Lg.old {g:H} {m:Option Nat} {b:Nat} {y:Blk} (h:gs (M ops.length).hs 0=some (g,m)) (hb:g.get b=some y):b < n0+flN ops:=by
 obtain ⟨g1,m1,h1,h2,h3⟩:=L.z
 obtain ⟨x,hx⟩:=L.hsApp ops.length (Nat.zero_le _) (Nat.le_refl _)
 rw [hx,h1,gs_app _ _ (by simp)] at h
 cases h
 rw [←h2]
 exact h3 b y hb
theorem Lg.gsAt {i s:Nat} (hi:i≤ops.length) (hs:s≤En ops i):gs (M ops.length).hs s=gs (M i).hs s:=by
 obtain ⟨x,hx⟩:=L.hsApp ops.length hi (Nat.le_refl _)
 rw [hx,gs_app _ _ (by rw [L.hsLen i hi];omega)]
theorem Lg.lsMem {i:Nat} {p:Nat × Nat} (hp:p∈(M i).ls):∀ j,i≤j→j≤ops.length→p∈(M j).ls
 | 0,h,_=>by rw [Nat.le_zero.1 h] at hp;exact hp
 | j+1,h,hj=>by
   rcases Nat.lt_or_ge i (j+1) with h1 | h1
   ·have ih:=Lg.lsMem hp j (by omega) (by omega)
    obtain ⟨o,row,ho,hrow,_⟩:=L.find (i:=j) (by omega)
    obtain ⟨h,m,rest,hh,h2 | h2⟩:=Qbx (L.st j row hrow)
    ·rw [h2.2.2]
     unfold skipS
     split <;> exact ih
    ·obtain ⟨_,v,d,_⟩:=h2
     generalize M (j+1)=S' at d
     cases d with
     | load=>exact List.mem_cons_of_mem _ ih
     | _=>exact ih
   ·rw [show i=j+1 by omega] at hp;exact hp
theorem Lg.psOk:∀ i,i≤ops.length→(∀ p∈(M i).ps,p.1 < i∧FL P n0 ops T p.1 p.2.1 p.2.2∧¬ Mg ops bf T (En ops i) p.1)∧(M i).ps.Pairwise fun p q=>q.1 < p.1
 | 0,_=>by rw [L.m0.2.2];exact ⟨fun p h=>(by cases h),List.Pairwise.nil⟩
 | i+1,hi=>by
   obtain ⟨ih,ihp⟩:=Lg.psOk i (by omega)
   obtain ⟨o,row,ho,hrow,rfl,hri,hanc,heff,hrd,hfl⟩:=L.find (i:=i) (by omega)
   have mgs:∀ k,Mg ops bf T (En ops (i+1)) k→Mg ops bf T (En ops i) k∨(effB row.o.op=true∧wantV ops (tget (T i)) row.o=some true∧anB bf i k=true):=by
    rintro k ⟨j,x,h1,h2,h3,h4,h5⟩
    have h6:=(En_lt h1 h2).1 h4
    rcases Nat.lt_or_ge j i with h7 | h7
    · exact .inl ⟨j,x,h1,h2,h3,(En_lt h1 h2).2 h7,h5⟩
    · obtain rfl:j=i:=by omega
      rw [ho] at h1
      cases h1
      exact .inr ⟨h2,h3,h5⟩
   have same:(∀ p∈(M i).ps,¬ (effB row.o.op=true∧wantV ops (tget (T i)) row.o=some true∧anB bf i p.1=true))→(∀ p∈(M i).ps,p.1 < i+1∧FL P n0 ops T p.1 p.2.1 p.2.2∧¬ Mg ops bf T (En ops (i+1)) p.1)∧(M i).ps.Pairwise fun p q=>q.1 < p.1:=fun hno=>
    ⟨fun p hp=>⟨by have:=(ih p hp).1;omega,(ih p hp).2.1,fun hm=>(mgs _ hm).elim (ih p hp).2.2 (hno p hp)⟩,ihp⟩
   have rest:(∀ p∈restA row.anc (M i).ps,p.1 < i+1∧FL P n0 ops T p.1 p.2.1 p.2.2∧¬ Mg ops bf T (En ops (i+1)) p.1)∧(restA row.anc (M i).ps).Pairwise fun p q=>q.1 < p.1:=
    ⟨fun p hp=>(by
      obtain ⟨k1,k2⟩:=restA_mem hp
      refine ⟨by have:=(ih p k1).1;omega,(ih p k1).2.1,fun hm=>(mgs _ hm).elim (ih p k1).2.2 fun ⟨_,_,h3⟩=>?_⟩
      rw [←hanc,k2] at h3
      cases h3),ihp.sublist (restA_sub _)⟩
   obtain ⟨h,m,rst,hh,h2 | h2⟩:=Qbx (L.st i row hrow)
   ·rw [h2.2.2]
    have:=same fun p hp hq=>by rw [h2.1] at hq;cases hq.2.1
    unfold skipS
    split <;> exact this
   ·obtain ⟨hw,v,d,_⟩:=h2
    have noeff:row.eff=false→(∀ p∈(M i).ps,¬ (effB row.o.op=true∧wantV ops (tget (T i)) row.o=some true∧anB bf i p.1=true)):=fun h1 p hp hq=>by rw [←heff,h1] at hq;cases hq.1
    generalize M (i+1)=S' at d
    cases d with
    | full=>exact rest
    | part=>exact rest
    | eff=>exact rest
    | float q v hf b he hq hv hb=>
      rw [hfl] at hq
      split at hq
      ·rename_i hflb
       cases hq
       obtain ⟨s1,s2⟩:=same (noeff he)
       refine ⟨fun p hp=>?_,List.Pairwise.cons (fun p hp=>by rw [hri];exact (ih p hp).1) s2⟩
       rcases List.mem_cons.1 hp with rfl | hp
       ·rw [hri]
        refine ⟨Nat.lt_succ_self _,⟨_,ho,hflb,rfl,hw,v,hf,hv,hb⟩,?_⟩
        rintro ⟨j,x,k1,k2,k3,k4,k5⟩
        have:=(En_lt k1 k2).1 k4
        have:=L.od.lt j x k1 i k5
        omega
       ·exact s1 p hp
      ·cases hq
    | load b g m v h' he hq hr hb hm hg hv=>exact same (noeff he)
    | pure v h' he hq hr hv=>exact same (noeff he)
theorem Lg.tOther {i:Nat} {o:Oper} (ho:ops[i]? =some o) {t:Nat} (hd:o.dst≠some t):tget (T (i+1)) t=tget (T i) t:=by
 obtain ⟨o',row,ho',hrow,rfl,_⟩:=L.find (i:=i) (List.getElem?_eq_some_iff.1 ho).1
 rw [ho] at ho'
 cases ho'
 obtain ⟨h,m,rest,hh,h2 | h2⟩:=Qbx (L.st i row hrow)
 ·rw [putT_get h2.2.1,if_neg hd]
 ·obtain ⟨_,v,d,hp⟩:=h2
  rw [putT_get hp,if_neg hd]
end
open Classical in
noncomputable def tW (ops:List Oper) (T:Nat→TT V) (S:Nat→Prop):Nat→Nat→V
 | 0,t=>tget (T 0) t
 | k+1,t=>if S k∧∃ o,ops[k]? =some o∧o.dst=some t then tget (T (k+1)) t else tW ops T S k t
theorem tW_congr {ops:List Oper} {T:Nat→TT V} {S S':Nat→Prop} {t:Nat} (h:∀ j o,ops[j]? =some o→o.dst=some t→(S j↔S' j)):∀ k,tW ops T S k t=tW ops T S' k t
 | 0=>rfl
 | k+1=>by
   unfold tW
   by_cases h1:∃ o,ops[k]? =some o∧o.dst=some t
   ·obtain ⟨o,h2,h3⟩:=h1
    by_cases h4:S k
    ·rw [if_pos ⟨h4,o,h2,h3⟩,if_pos ⟨(h k o h2 h3).1 h4,o,h2,h3⟩]
    ·rw [if_neg fun x=>h4 x.1,if_neg fun x=>h4 ((h k o h2 h3).2 x.1)]
     exact tW_congr h k
   ·rw [if_neg fun x=>h1 x.2,if_neg fun x=>h1 x.2]
    exact tW_congr h k
theorem tW_eq {P:Program} {go:Task→Option Out} {n0 N:Nat} {ops:List Oper} {bf:List Nat} {l:List Row} {T:Nat→TT V} {M:Nat→Ms} (L:Lg P go n0 N ops bf l T M) {S:Nat→Prop} {t i:Nat}
   (h:∀ j o,ops[j]? =some o→o.dst=some t→(S j↔j < i)):∀ k,k≤ops.length→tW ops T S k t=tget (T (min i k)) t
 | 0,_=>by rw [Nat.min_zero];rfl
 | k+1,hk=>by
   have ih:=tW_eq L h k (by omega)
   have ho:ops[k]? =some ops[k]:=List.getElem?_eq_getElem hk
   unfold tW
   by_cases h1:ops[k].dst=some t
   · by_cases h2:k < i
     ·rw [if_pos ⟨(h k _ ho h1).2 h2,_,ho,h1⟩,Nat.min_eq_right (by omega)]
     ·rw [if_neg fun x=>h2 ((h k _ ho h1).1 x.1),ih,Nat.min_eq_left (by omega),Nat.min_eq_left (by omega)]
   · rw [if_neg fun ⟨_,o,h3,h4⟩=>h1 (by rw [ho] at h3;cases h3;exact h4),ih]
     by_cases h2:k < i
     ·rw [Nat.min_eq_right (by omega),Nat.min_eq_right (by omega),L.tOther ho h1]
     ·rw [Nat.min_eq_left (by omega),Nat.min_eq_left (by omega)]
end Go.Ev
namespace Go.Ev
open Go
set_option linter.unusedVariables false
set_option linter.unusedSimpArgs false
theorem memB_true {t:Nat}:∀ {l:List Nat},t∈l→memB t l=true
 | x :: l,h=>by
   have hs:memB t (x :: l)=Bool.rec (memB t l) true (Nat.beq x t):=rfl
   rw [hs]
   cases hb:Nat.beq x t with
   | true=>rfl
   | false=>
     rcases List.mem_cons.1 h with rfl | h2
     ·rw [show Nat.beq t t=true from Nat.beq_refl t] at hb;cases hb
     ·exact memB_true h2
theorem tmpsOf_mem {t:Nat}:∀ {l:List Operand},Operand.tmp t∈l→t∈tmpsOf l
 | x :: l,h=>by
   have hs:tmpsOf (x :: l)=(match x with | .tmp u=>u :: tmpsOf l | _=>tmpsOf l):=by cases x <;> rfl
   rw [hs]
   rcases List.mem_cons.1 h with rfl | h2
   ·exact List.mem_cons_self
   ·have:=tmpsOf_mem h2
    cases x <;> first | exact this | exact List.mem_cons_of_mem _ this
theorem reads_op {ops:List Oper} {o:Oper} {t:Nat} (h:t∈tmpsOf o.op.operands.toList):t∈readsOf ops o:=by
 unfold readsOf
 simp only
 split
 ·split
  ·split
   ·exact List.mem_cons_of_mem _ h
   ·exact h
  ·exact h
 ·exact h
theorem reads_guard {ops:List Oper} {o q:Oper} {j d:Nat} {b:Bool} (hg:o.guard=some (j,b)) (hq:lget ops j=some q) (hd:q.dst=some d):d∈readsOf ops o:=by
 unfold readsOf
 simp only [hg,hq,hd]
 exact List.mem_cons_self
theorem clash_false {ops:List Oper} {a b:Oper} (h:clash ops a b=false) {d:Nat} (hd:a.dst=some d):d ∉ readsOf ops b∧b.dst≠some d:=by
 unfold clash at h
 rw [hd] at h
 simp only [Bool.or_eq_false_iff] at h
 refine ⟨fun hm=>?_,fun hb=>?_⟩
 ·rw [memB_true hm] at h;cases h.1
 ·rw [hb] at h
  have h2:=h.2
  simp only at h2
  rw [show Nat.beq d d=true from Nat.beq_refl d] at h2
  cases h2
theorem neO_ne {m:Option Nat} {b:Nat} (h:neO m b=true):m≠some b:=by
 intro e
 subst e
 have hs:neO (some b) b=Bool.rec true false (Nat.beq b b):=rfl
 rw [hs,show Nat.beq b b=true from Nat.beq_refl b] at h
 cases h
theorem freeOf_mem {anc:Nat} {m:Option Nat}:∀ {ls:List (Nat × Nat)},Qdd anc m ls=true→∀ p∈ls,bit anc p.1=true∨neO m p.2=true
 | q :: ls,h,p,hp=>by
   have hs:Qdd anc m (q :: ls)=Bool.rec (Bool.rec false (Qdd anc m ls) (neO m q.2)) (Qdd anc m ls) (bit anc q.1):=rfl
   rw [hs] at h
   cases hb:bit anc q.1 with
   | true=>
     rw [hb] at h
     rcases List.mem_cons.1 hp with rfl | h2
     · exact .inl hb
     · exact freeOf_mem (show Qdd anc m ls=true from h) p h2
   | false=>
     rw [hb] at h
     cases hn:neO m q.2 with
     | false=>rw [hn] at h;cases h
     | true=>
       rw [hn] at h
       rcases List.mem_cons.1 hp with rfl | h2
       ·exact .inr hn
       ·exact freeOf_mem (show Qdd anc m ls=true from h) p h2
theorem freeMs_get {b:Nat}:∀ {n:Nat} {l:List (H × Option Nat)},freeMs b n l=true→∀ k p,k < n→l[k]? =some p→neO p.2 b=true
 | 0,_,_,k,_,hk,_=>absurd hk (Nat.not_lt_zero _)
 | n+1,[],_,k,p,_,hp=>by simp at hp
 | n+1,q :: l,h,k,p,hk,hp=>by
   have hs:freeMs b (n+1) (q :: l)=Bool.rec false (freeMs b n l) (neO q.2 b):=rfl
   rw [hs] at h
   cases hn:neO q.2 b with
   | false=>rw [hn] at h;cases h
   | true=>
     rw [hn] at h
     cases k with
     | zero=>simp only [List.getElem?_cons_zero,Option.some.injEq] at hp;subst hp;exact hn
     | succ k=>exact freeMs_get (show freeMs b n l=true from h) k p (by omega) (by simpa using hp)
theorem HRP.mergeA {w0:World} {env:Env} {h:H} {w:World} {Q:Nat→Blk→Prop} (x:HRP w0 env h w Q) (anc:Nat):∀ ps:List (Nat × Nat × Blk),(∀ p∈ps,bit anc p.1=true→Q p.2.1 p.2.2)→(ps.Pairwise fun p q=>p.2.1≠q.2.1)→
   HRP w0 env (Ev.mergeA anc ps h) w (fun n y=>Q n y∧∀ p∈ps,bit anc p.1=true→n≠p.2.1)∧(Ev.mergeA anc ps h).n=h.n∧(Ev.mergeA anc ps h).fl=h.fl∧∀ b,(∀ p∈ps,bit anc p.1=true→b≠p.2.1)→(Ev.mergeA anc ps h).get b=h.get b
 | [],_,_=>⟨x.mono fun _ _ h=>h.1,rfl,rfl,fun _ _=>rfl⟩
 | p :: ps,hq,hp=>by
   obtain ⟨i1,i2,i3,i4⟩:=HRP.mergeA x anc ps (fun q hq2=>hq q (List.mem_cons_of_mem _ hq2)) (List.pairwise_cons.1 hp).2
   have hs:Ev.mergeA anc (p :: ps) h=Bool.rec (Ev.mergeA anc ps h) ((Ev.mergeA anc ps h).put p.2.1 p.2.2) (bit anc p.1):=rfl
   rw [hs]
   cases hb:bit anc p.1 with
   | false=>
     refine ⟨i1.mono fun n y h=>⟨h.1,fun q hq2=>h.2 q (List.mem_cons_of_mem _ hq2)⟩,i2,i3,fun b hbb=>i4 b fun q hq2=>hbb q (List.mem_cons_of_mem _ hq2)⟩
   | true=>
     refine ⟨(i1.merge ⟨hq p List.mem_cons_self hb,fun q hq2 _=>(List.pairwise_cons.1 hp).1 q hq2⟩).mono fun n y h=>⟨⟨h.1,fun q hq2=>h.2 q (List.mem_cons_of_mem _ hq2)⟩,h.2 p List.mem_cons_self hb⟩,i2,i3,fun b hbb=>?_⟩
     show ((Ev.mergeA anc ps h).put p.2.1 p.2.2).get b=_
     rw [H.get_put,if_neg (hbb p List.mem_cons_self hb)]
     exact i4 b fun q hq2=>hbb q (List.mem_cons_of_mem _ hq2)
theorem HRP.mergeL {w0:World} {env:Env} {h:H} {w:World} {Q:Nat→Blk→Prop} (x:HRP w0 env h w Q):∀ ps:List (Nat × Nat × Blk),(∀ p∈ps,Q p.2.1 p.2.2)→(ps.Pairwise fun p q=>p.2.1≠q.2.1)→
   HRP w0 env (Ev.mergeL ps h) w (fun n y=>Q n y∧∀ p∈ps,n≠p.2.1)∧(Ev.mergeL ps h).n=h.n∧(Ev.mergeL ps h).fl=h.fl∧∀ b,(∀ p∈ps,b≠p.2.1)→(Ev.mergeL ps h).get b=h.get b
 | [],_,_=>⟨x.mono fun _ _ h=>h.1,rfl,rfl,fun _ _=>rfl⟩
 | p :: ps,hq,hp=>by
   obtain ⟨i1,i2,i3,i4⟩:=HRP.mergeL x ps (fun q hq2=>hq q (List.mem_cons_of_mem _ hq2)) (List.pairwise_cons.1 hp).2
   have hs:Ev.mergeL (p :: ps) h=(Ev.mergeL ps h).put p.2.1 p.2.2:=rfl
   rw [hs]
   refine ⟨(i1.merge ⟨hq p List.mem_cons_self,fun q hq2=>(List.pairwise_cons.1 hp).1 q hq2⟩).mono fun n y h=>⟨⟨h.1,fun q hq2=>h.2 q (List.mem_cons_of_mem _ hq2)⟩,h.2 p List.mem_cons_self⟩,i2,i3,fun b hbb=>?_⟩
   rw [H.get_put,if_neg (hbb p List.mem_cons_self)]
   exact i4 b fun q hq2=>hbb q (List.mem_cons_of_mem _ hq2)
section
variable (P:Program) (n0 N:Nat) (ops:List Oper) (bf:List Nat) (l:List Row) (T:Nat→TT V) (M:Nat→Ms) (w0:World) (env0:Env) (h0:H) (wst:World) (d0:List Deferred)
def Pd (S:Nat→Prop) (c n:Nat) (y:Blk):Prop:=∃ i,S i∧FL P n0 ops T i n y∧¬ Mg ops bf T c i
structure Iv (S:Nat→Prop) (c:Nat) (G:H) (tmS:TT V) (env:Env) (w:World) (a:Act):Prop where
 sub:∀ i,S i→i < ops.length
 down:∀ i,S i→∀ j,anB bf i j=true→S j
 eff:∀ j o,ops[j]? =some o→effB o.op=true→(S j↔En ops j < c)
 cle:c≤En ops ops.length
 g:∃ μ,gs (M ops.length).hs c=some (G,μ)
 x:HRP w0 env G w (Pd P n0 ops bf T S c)
 gn:Gn env0 h0 wst env w
 hg:HG h0 G
 nn:n0+flN ops≤G.n
 un:∀ i o,ops[i]? =some o→flB o.op=true→¬ S i→env (n0+i)=none
 ts:TR env tmS N a.tmps
 tm:∀ t,tget tmS t=tW ops T S ops.length t
 df:a.defers=d0
 ld:∀ i o row b,ops[i]? =some o→l[i]? =some row→rdB o.op=true→¬ S i→wantV ops (tget (T i)) o=some true→rdO (ev0 (T i)) o.op=some b→row.st≤c→∀ g μ,gs (M ops.length).hs row.st=some (g,μ)→G.get b=g.get b
end
section
variable {P:Program} {go:Task→Option Out} {n0 N:Nat} {ops:List Oper} {bf:List Nat} {l:List Row} {T:Nat→TT V} {M:Nat→Ms} {w0:World} {env0:Env} {h0:H} {wst:World} {d0:List Deferred}
 {S:Nat→Prop} {c:Nat} {G:H} {tmS:TT V} {env:Env} {w:World} {a:Act}
theorem Iv.writers (L:Lg P go n0 N ops bf l T M) (I:Iv P n0 N ops bf l T M w0 env0 h0 wst d0 S c G tmS env w a) {i:Nat} {o:Oper} (ho:ops[i]? =some o) (hS: ¬ S i) (hr:∀ j,anB bf i j=true→S j) {t:Nat} (ht:t∈readsOf ops o∨o.dst=some t)
  {j:Nat} {x:Oper} (hj:ops[j]? =some x) (hx:x.dst=some t) (hij:j≠i):S j↔j < i:=by
 rcases L.od.pair j i x o hj ho hij with h1 | ⟨h1,_,_⟩
 ·rcases h1 with h1 | h1
  ·constructor
   ·intro h2;exact absurd (I.down j h2 i h1) hS
   ·intro h2;have:=L.od.lt j x hj i h1;omega
  ·exact ⟨fun _=>L.od.lt i o ho j h1,fun _=>hr j h1⟩
 ·obtain ⟨h2,h3⟩:=clash_false h1 hx
  rcases ht with ht | ht
  ·exact absurd ht h2
  ·exact absurd ht h3
theorem Iv.agree (L:Lg P go n0 N ops bf l T M) (I:Iv P n0 N ops bf l T M w0 env0 h0 wst d0 S c G tmS env w a) {i:Nat} {o:Oper} (ho:ops[i]? =some o) (hS: ¬ S i) (hr:∀ j,anB bf i j=true→S j) {t:Nat} (ht:t∈readsOf ops o):tget tmS t=tget (T i) t:=by
 have hi:i < ops.length:=(List.getElem?_eq_some_iff.1 ho).1
 rw [I.tm,tW_eq L (i:=i) (fun j x hj hx=>?_) ops.length (Nat.le_refl _),Nat.min_eq_left (by omega)]
 by_cases hij:j=i
 ·subst hij;exact ⟨fun h=>absurd h hS,fun h=>absurd h (Nat.lt_irrefl _)⟩
 ·exact I.writers L ho hS hr (.inl ht) hj hx hij
theorem Iv.agreeOp (L:Lg P go n0 N ops bf l T M) (I:Iv P n0 N ops bf l T M w0 env0 h0 wst d0 S c G tmS env w a) {i:Nat} {o:Oper} (ho:ops[i]? =some o) (hS: ¬ S i) (hr:∀ j,anB bf i j=true→S j) {x:Operand} (hx:x∈o.op.operands.toList):ev0 (T i) x=ev0 tmS x:=by
 cases x with
 | tmp t=>exact (I.agree L ho hS hr (reads_op (tmpsOf_mem hx))).symm
 | const v=>rfl
 | global g=>rfl
 | func f=>rfl
theorem Iv.agreeW (L:Lg P go n0 N ops bf l T M) (I:Iv P n0 N ops bf l T M w0 env0 h0 wst d0 S c G tmS env w a) {i:Nat} {o:Oper} (ho:ops[i]? =some o) (hS: ¬ S i) (hr:∀ j,anB bf i j=true→S j):wantV ops (tget tmS) o=wantV ops (tget (T i)) o:=by
 unfold wantV
 split
 ·rfl
 ·rename_i j b hg
  split
  ·rename_i q hq
   split
   ·rename_i d hd
    rw [I.agree L ho hS hr (reads_guard hg hq hd)]
   ·rfl
  ·rfl
theorem Iv.newT (L:Lg P go n0 N ops bf l T M) (I:Iv P n0 N ops bf l T M w0 env0 h0 wst d0 S c G tmS env w a) {i:Nat} {o:Oper} (ho:ops[i]? =some o) (hS: ¬ S i) (hr:∀ j,anB bf i j=true→S j) {v:V} (hp:putT N (T i) v o.dst=some (T (i+1))):
  ∃ tm',putT N tmS v o.dst=some tm'∧∀ t,tget tm' t=tW ops T (fun j=>S j∨j=i) ops.length t:=by
 have hi:i < ops.length:=(List.getElem?_eq_some_iff.1 ho).1
 obtain ⟨tm',h1⟩:=putT_any hp tmS
 refine ⟨tm',h1,fun t=>?_⟩
 rw [putT_get h1]
 by_cases hd:o.dst=some t
 ·rw [if_pos hd,tW_eq L (i:=i+1) (fun j x hj hx=>?_) ops.length (Nat.le_refl _),Nat.min_eq_left (by omega),putT_get hp,if_pos hd]
  by_cases hij:j=i
  ·exact ⟨fun _=>by omega,fun _=>.inr hij⟩
  ·have:=I.writers L ho hS hr (.inr hd) hj hx hij
   constructor
   ·rintro (h2 | h2)
    ·have:=this.1 h2;omega
    ·omega
   ·intro h2;exact .inl (this.2 (by omega))
 ·rw [if_neg hd,I.tm]
  refine tW_congr (fun j x hj hx=>⟨fun h=>.inl h,fun h=>?_⟩) _
  rcases h with h | h
  ·exact h
  ·subst h
   rw [ho] at hj
   cases hj
   exact absurd hx hd
end
end Go.Ev
namespace Go.Ev
open Go
set_option linter.unusedVariables false
set_option linter.unusedSimpArgs false
theorem callee_eff {o:Op} (h:effB o=false):Qbk o=none:=by
 cases hc:Qbk o with
 | none=>rfl
 | some p=>
   obtain ⟨f,xs⟩:=p
   obtain ⟨c,rfl,hf,_⟩:=calleeO_some hc
   simp only [effB,hf] at h
   cases h
theorem fl_eff {o:Op} (h:flB o=true):effB o=false:=by
 cases o <;> first | rfl | cases h
theorem rd_eff {o:Op} (h:rdB o=true):effB o=false∧flB o=false:=by
 cases o <;> first | exact ⟨rfl,rfl⟩ | cases h
theorem Mg.mono {ops:List Oper} {bf:List Nat} {T:Nat→TT V} {c c' i:Nat} (h:c≤c') (x:Mg ops bf T c i):Mg ops bf T c' i:=by
 obtain ⟨j,o,h1,h2,h3,h4,h5⟩:=x
 exact ⟨j,o,h1,h2,h3,by omega,h5⟩
section
variable {P:Program} {go:Task→Option Out} {n0 N:Nat} {ops:List Oper} {bf:List Nat} {l:List Row} {T:Nat→TT V} {M:Nat→Ms}
theorem Lg.loadAt (L:Lg P go n0 N ops bf l T M) {k:Nat} {x:Oper} {row:Row} {b:Nat} (hk:ops[k]? =some x) (hrow:l[k]? =some row) (hr:rdB x.op=true) (hw:wantV ops (tget (T k)) x=some true) (hb:rdO (ev0 (T k)) x.op=some b):
  (k,b)∈(M (k+1)).ls∧freeMs b (En ops k - row.st) (M k).hs=true∧row.st≤En ops k∧∃ g m v h',gs (M ops.length).hs row.st=some (g,m)∧opV P g (ev0 (T k)) x.op=some (v,h')∧putT N (T k) v x.dst=some (T (k+1)):=by
 obtain ⟨row',h1,rfl,hri,hanc,heff,hrd,hfl,hst1,hst2,_⟩:=L.od.row k x hk
 rw [hrow] at h1
 cases h1
 have hlt:k < ops.length:=(List.getElem?_eq_some_iff.1 hk).1
 obtain ⟨e1,e2⟩:=rd_eff hr
 have hstle:row.st≤En ops k:=by
  rcases hst2 with h | ⟨j,y,h2,h3,h4,h5⟩
  · omega
  · have:=(En_lt h2 h3).2 (L.od.lt k _ hk j h4);omega
 have hlen:llen (M k).hs - 1 - row.st=En ops k - row.st:=by rw [Qas,L.hsLen k (by omega)];omega
 obtain ⟨h,m,rest,hh,h2 | h2⟩:=Qbx (L.st k row hrow)
 ·rw [hw] at h2;cases h2.1
 ·obtain ⟨_,v,d,hp⟩:=h2
  generalize hM:M (k+1)=S' at d
  cases d with
  | full f xs v h' he=>rw [heff,e1] at he;cases he
  | part f xs v h' he=>rw [heff,e1] at he;cases he
  | eff v h' he=>rw [heff,e1] at he;cases he
  | float q v hf b he hq=>rw [hfl,e2] at hq;cases hq
  | load b' g m v h' he hq hr' hb' hm hg hv=>
    rw [hb] at hb'
    cases hb'
    rw [hri]
    refine ⟨List.mem_cons_self,by rw [←hlen];exact hm,hstle,g,m,v,h',?_,hv,hp⟩
    rw [gs_lget (by rw [L.hsLen k (by omega)];omega)] at hg
    rw [L.gsAt (by omega) hstle]
    exact hg
  | pure v h' he hq hr' hv=>rw [hrd,hr] at hr';cases hr'
end
section
variable {P:Program} {go:Task→Option Out} {n0 N:Nat} {ops:List Oper} {bf:List Nat} {l:List Row} {T:Nat→TT V} {M:Nat→Ms} {w0:World} {env0:Env} {h0:H} {wst:World} {d0:List Deferred}
 {S:Nat→Prop} {c:Nat} {G:H} {tmS:TT V} {env:Env} {w:World} {a:Act}
theorem Iv.stage (L:Lg P go n0 N ops bf l T M) (I:Iv P n0 N ops bf l T M w0 env0 h0 wst d0 S c G tmS env w a) {i:Nat} {o:Oper} (ho:ops[i]? =some o) (he:effB o.op=true) (hS: ¬ S i) (hr:∀ j,anB bf i j=true→S j):c=En ops i:=by
 have h1: ¬ En ops i < c:=fun h=>hS ((I.eff i o ho he).2 h)
 rcases Nat.lt_or_ge c (En ops i) with h2 | h2
 ·obtain ⟨j,x,h3,h4,h5,h6⟩:=En_find ops i c h2
  have h7: ¬ S j:=fun h=>by have:=(I.eff j x h4 h5).1 h;omega
  rcases L.od.pair j i x o h4 ho (by omega) with (h8 | h8) | ⟨_,_,h8⟩
  ·have:=L.od.lt j x h4 i h8;omega
  ·exact absurd (hr j h8) h7
  ·exact absurd ⟨h5,he⟩ h8
 ·omega
theorem Iv.head (L:Lg P go n0 N ops bf l T M) (I:Iv P n0 N ops bf l T M w0 env0 h0 wst d0 S c G tmS env w a) {i:Nat} (hi:i < ops.length) (hc:c=En ops i) {h:H} {m:Option Nat} {rest:List (H × Option Nat)} (hh:(M i).hs=(h,m) :: rest):h=G:=by
 have h1:=L.hsLen i (by omega)
 rw [hh,List.length_cons] at h1
 have h2:=L.gsAt (i:=i) (s:=c) (by omega) (by omega)
 rw [hh,show c=rest.length by omega,gs_head] at h2
 obtain ⟨μ,h3⟩:=I.g
 rw [show c=rest.length by omega,h2] at h3
 cases h3
 rfl
theorem Iv.plain (L:Lg P go n0 N ops bf l T M) (I:Iv P n0 N ops bf l T M w0 env0 h0 wst d0 S c G tmS env w a) {i:Nat} {o:Oper} (ho:ops[i]? =some o) (he:effB o.op=false) (hr:∀ j,anB bf i j=true→S j) {tm':TT V} {env':Env} {w':World} {a':Act}
  (x:HRP w0 env' G w' (Pd P n0 ops bf T (fun j=>S j∨j=i) c)) (gn:Gn env0 h0 wst env' w') (un:∀ j y,ops[j]? =some y→flB y.op=true→¬ S j→j≠i→env' (n0+j)=none) (ts:TR env' tm' N a'.tmps) (tm:∀ t,tget tm' t=tW ops T (fun j=>S j∨j=i) ops.length t) (df:a'.defers=d0):
  Iv P n0 N ops bf l T M w0 env0 h0 wst d0 (fun j=>S j∨j=i) c G tm' env' w' a' where
 sub:=fun j hj=>by
  rcases hj with hj | rfl
  · exact I.sub j hj
  · exact (List.getElem?_eq_some_iff.1 ho).1
 down:=fun j hj k hk=>by
  rcases hj with hj | rfl
  · exact .inl (I.down j hj k hk)
  · exact .inl (hr k hk)
 eff:=fun j y hj hy=>by
  constructor
  · rintro (h | rfl)
    ·exact (I.eff j y hj hy).1 h
    ·rw [ho] at hj;cases hj;rw [he] at hy;cases hy
  · intro h;exact .inl ((I.eff j y hj hy).2 h)
 cle:=I.cle
 g:=I.g
 x:=x
 gn:=gn
 hg:=I.hg
 nn:=I.nn
 un:=fun j y hj hy hn=>un j y hj hy (fun h=>hn (.inl h)) (fun h=>hn (.inr h))
 ts:=ts
 tm:=tm
 df:=df
 ld:=fun k y row b hk hrow hrd hn=>I.ld k y row b hk hrow hrd fun h=>hn (.inl h)
theorem Iv.effs (L:Lg P go n0 N ops bf l T M) (I:Iv P n0 N ops bf l T M w0 env0 h0 wst d0 S c G tmS env w a) {i:Nat} {o:Oper} (ho:ops[i]? =some o) (he:effB o.op=true) (hS: ¬ S i) (hr:∀ j,anB bf i j=true→S j) {G':H} {μ:Option Nat} {tm':TT V} {env':Env} {w':World} {a':Act}
  (hgs:gs (M ops.length).hs (c+1)=some (G',μ)) (x:HRP w0 env' G' w' (Pd P n0 ops bf T (fun j=>S j∨j=i) (c+1))) (gn:Gn env0 h0 wst env' w') (hg:HG h0 G') (hn:G.n≤G'.n) (un:∀ j y,ops[j]? =some y→flB y.op=true→¬ S j→j≠i→env' (n0+j)=none)
  (ts:TR env' tm' N a'.tmps) (tm:∀ t,tget tm' t=tW ops T (fun j=>S j∨j=i) ops.length t) (df:a'.defers=d0)
  (same:∀ k y row b,ops[k]? =some y→l[k]? =some row→rdB y.op=true→¬ S k→k≠i→wantV ops (tget (T k)) y=some true→rdO (ev0 (T k)) y.op=some b→row.st≤c→G'.get b=G.get b):
  Iv P n0 N ops bf l T M w0 env0 h0 wst d0 (fun j=>S j∨j=i) (c+1) G' tm' env' w' a' where
 sub:=fun j hj=>by
  rcases hj with hj | rfl
  · exact I.sub j hj
  · exact (List.getElem?_eq_some_iff.1 ho).1
 down:=fun j hj k hk=>by
  rcases hj with hj | rfl
  · exact .inl (I.down j hj k hk)
  · exact .inl (hr k hk)
 eff:=fun j y hj hy=>by
  have hc:=I.stage L ho he hS hr
  constructor
  · rintro (h | rfl)
    ·have:=(I.eff j y hj hy).1 h;omega
    ·omega
  · intro h
    by_cases h2:En ops j < c
    ·exact .inl ((I.eff j y hj hy).2 h2)
    ·right
     have e1:=En_lt (i:=i) hj hy
     have e2:=En_lt (i:=j) ho he
     omega
 cle:=by
  have hc:=I.stage L ho he hS hr
  have h1:=(En_lt (i:=ops.length) ho he).2 (List.getElem?_eq_some_iff.1 ho).1
  omega
 g:=⟨μ,hgs⟩
 x:=x
 gn:=gn
 hg:=hg
 nn:=Nat.le_trans I.nn hn
 un:=fun j y hj hy hn=>un j y hj hy (fun h=>hn (.inl h)) (fun h=>hn (.inr h))
 ts:=ts
 tm:=tm
 df:=df
 ld:=fun k y row b hk hrow hrd hn hw hb hst g μ' hgs'=>by
  by_cases h1:row.st≤c
  · rw [same k y row b hk hrow hrd (fun h=>hn (.inl h)) (fun h=>hn (.inr h)) hw hb h1]
    exact I.ld k y row b hk hrow hrd (fun h=>hn (.inl h)) hw hb h1 g μ' hgs'
  · rw [show row.st=c+1 by omega,hgs] at hgs'
    cases hgs'
    rfl
theorem Iv.fln (I:Iv P n0 N ops bf l T M w0 env0 h0 wst d0 S c G tmS env w a) {j:Nat} {y:Oper} (hj:ops[j]? =some y) (hy:flB y.op=true):n0+j < G.n:=by
 have h1:flN ops=ops.length:=by
  unfold flN
  have:(ops.any fun o=>flB o.op)=true:=List.any_eq_true.2 ⟨y,List.mem_of_getElem? hj,hy⟩
  rw [this]
  exact Qas _
 have:=I.nn
 have:=(List.getElem?_eq_some_iff.1 hj).1
 omega
theorem Iv.calm (L:Lg P go n0 N ops bf l T M) (hg:SndV P w0 go) (hf0:∀ x,h0.n≤x→env0 x=none) {opsA:Array Oper} (hA:opsA.toList=ops) (I:Iv P n0 N ops bf l T M w0 env0 h0 wst d0 S c G tmS env w a) {i:Nat} {o:Oper} (ho:ops[i]? =some o) (he:effB o.op=false) (hfl:flB o.op=false)
  (hS: ¬ S i) (hr:∀ j,anB bf i j=true→S j) (hw:wantV ops (tget (T i)) o=some true) {v:V} (hv:opV P G (ev0 (T i)) o.op=some (v,G)) (hp:putT N (T i) v o.dst=some (T (i+1))) (F:FS) (k:List Item) (cs:List Frame) (rest:List Nat):
  ∃ c' G' tm' env' w' a',Iv P n0 N ops bf l T M w0 env0 h0 wst d0 (fun j=>S j∨j=i) c' G' tm' env' w' a'∧Steps P (lone (Ev.mk F a (.inRegion opsA (i :: rest) :: k)) cs w) (lone (Ev.mk F a' (.inRegion opsA rest :: k)) cs w'):=by
 subst hA
 have ho':opsA[i]? =some o:=by simpa using ho
 have hw':Region.wanted o (yielded opsA a.tmps)=true:=wantV_ok ((I.agreeW L ho hS hr).trans hw) I.ts
 have hv':oneO P go G (ev0 tmS) o.op=some (v,G):=by
  unfold oneO
  rw [callee_eff he]
  show opV P G (ev0 tmS) o.op=_
  rw [←opV_congr fun x hx=>I.agreeOp L ho hS hr hx]
  exact hv
 obtain ⟨u,w',env',s1,v1,r1,g1,q1⟩:=oneO_ok hg I.x.hr (ev0_ok I.ts) hv' F k cs opsA i rest ho' hw'
 obtain ⟨tm',t1,t2⟩:=I.newT L ho hS hr hp
 obtain ⟨t3,t4⟩:=Qda t1 (I.ts.mono g1.le) v1
 refine ⟨c,G,tm',env',w',a.put o.dst u,I.plain L ho he hr ?_ (Gn.trans hf0 I.hg I.gn g1) (fun j y hj hy hn hne=>?_) t3 t2 (t4.trans I.df),s1⟩
 ·refine (I.x.step r1 g1 q1).mono fun n y hq=>?_
  obtain ⟨j,h1,h2,h3⟩:=hq
  rcases h1 with h1 | rfl
  · exact ⟨j,h1,h2,h3⟩
  · obtain ⟨o2,h4,h5,_⟩:=h2
    rw [ho] at h4;cases h4;rw [hfl] at h5;cases h5
 ·rw [g1.old _ (I.fln hj hy)]
  exact I.un j y hj hy hn
theorem Iv.pass (L:Lg P go n0 N ops bf l T M) {opsA:Array Oper} (hA:opsA.toList=ops) (I:Iv P n0 N ops bf l T M w0 env0 h0 wst d0 S c G tmS env w a) {i:Nat} {o:Oper} {row:Row} (ho:ops[i]? =some o) (hrow:l[i]? =some row) (hS: ¬ S i) (hr:∀ j,anB bf i j=true→S j)
  (hw:wantV ops (tget (T i)) o=some false) (F:FS) (k:List Item) (cs:List Frame) (rest:List Nat):
  ∃ c' G' tm' env' w' a',Iv P n0 N ops bf l T M w0 env0 h0 wst d0 (fun j=>S j∨j=i) c' G' tm' env' w' a'∧Steps P (lone (Ev.mk F a (.inRegion opsA (i :: rest) :: k)) cs w) (lone (Ev.mk F a' (.inRegion opsA rest :: k)) cs w'):=by
 subst hA
 have hi:i < opsA.toList.length:=(List.getElem?_eq_some_iff.1 ho).1
 have ho':opsA[i]? =some o:=by simpa using ho
 have hw':Region.wanted o (yielded opsA a.tmps)=false:=wantV_ok ((I.agreeW L ho hS hr).trans hw) I.ts
 obtain ⟨row',h1,rfl,hri,hanc,heff,_⟩:=L.od.row i o ho
 rw [hrow] at h1
 cases h1
 obtain ⟨h,m,rst,hh,h2 | h2⟩:=Qbx (L.st i row hrow)
 ·obtain ⟨_,hp,hM⟩:=h2
  obtain ⟨tm',t1,t2⟩:=I.newT L ho hS hr hp
  obtain ⟨t3,t4⟩:=Qda t1 I.ts (VR.mku env)
  have hst:Steps P (lone (Ev.mk F a (.inRegion opsA (i :: rest) :: k)) cs w) (lone (Ev.mk F (a.put row.o.dst undef) (.inRegion opsA rest :: k)) cs w):=by
    have:=st_op_skip (P:=P) (F:=F) (a:=a) (k:=k) (cs:=cs) (w:=w) (ops:=opsA) (i:=i) (rest:=rest) (by rw [ho'];simpa using hw')
    rw [ho'] at this
    exact .one this
  have noFL:∀ n y,¬ FL P n0 opsA.toList T i n y:=by
    rintro n y ⟨o2,h4,h5,h6,h7,_⟩
    rw [ho] at h4;cases h4;rw [hw] at h7;cases h7
  cases he:effB row.o.op with
  | false=>
    exact ⟨c,G,tm',env,w,_,I.plain L ho he hr (I.x.mono fun n y ⟨j,h1,h2,h3⟩=>by
     rcases h1 with h1 | rfl
     ·exact ⟨j,h1,h2,h3⟩
     ·exact absurd h2 (noFL _ _)) I.gn (fun j y hj hy hn _=>I.un j y hj hy hn) t3 t2 (t4.trans I.df),hst⟩
  | true=>
    have hc:=I.stage L ho he hS hr
    obtain rfl:=I.head L hi hc hh
    have hgs:gs (M opsA.toList.length).hs (c+1)=some (h,none):=by
     have e1:=En_succ opsA.toList i ho
     rw [if_pos he] at e1
     have hM2:(M (i+1)).hs=(h,none) :: (M i).hs:=by rw [hM];simp only [skipS,heff,he]
     have e2:=L.hsLen i (by omega)
     rw [L.gsAt (i:=i+1) (by omega) (by omega),hM2,show c+1=(M i).hs.length by omega,gs_head]
    exact ⟨c+1,h,tm',env,w,_,I.effs L ho he hS hr hgs (I.x.mono fun n y ⟨j,h1,h2,h3⟩=>by
     rcases h1 with h1 | rfl
     ·exact ⟨j,h1,h2,fun hm=>h3 (hm.mono (by omega))⟩
     ·exact absurd h2 (noFL _ _)) I.gn I.hg (Nat.le_refl _) (fun j y hj hy hn _=>I.un j y hj hy hn) t3 t2 (t4.trans I.df) (fun _ _ _ _ _ _ _ _ _ _ _ _=>rfl),hst⟩
 ·rw [hw] at h2;cases h2.1
end
end Go.Ev
namespace Go.Ev
open Go
set_option linter.unusedVariables false
set_option linter.unusedSimpArgs false
section
variable {P:Program} {go:Task→Option Out} {n0 N:Nat} {ops:List Oper} {bf:List Nat} {l:List Row} {T:Nat→TT V} {M:Nat→Ms} {w0:World} {env0:Env} {h0:H} {wst:World} {d0:List Deferred}
 {S:Nat→Prop} {c:Nat} {G:H} {tmS:TT V} {env:Env} {w:World} {a:Act}
theorem Iv.fresh (L:Lg P go n0 N ops bf l T M) (hn0:n0=h0.n) (hfl0:h0.fl≤h0.n) {opsA:Array Oper} (hA:opsA.toList=ops) (I:Iv P n0 N ops bf l T M w0 env0 h0 wst d0 S c G tmS env w a) {i:Nat} {o:Oper} (ho:ops[i]? =some o) (hfl:flB o.op=true)
  (hS: ¬ S i) (hr:∀ j,anB bf i j=true→S j) (hw:wantV ops (tget (T i)) o=some true) {v:V} {hf:H} {b:Blk} (hv:opV P ⟨.lf,n0+i,0⟩ (ev0 (T i)) o.op=some (v,hf)) (hb:hf.get (n0+i)=some b) (hp:putT N (T i) v o.dst=some (T (i+1))) (F:FS) (k:List Item) (cs:List Frame) (rest:List Nat):
  ∃ c' G' tm' env' w' a',Iv P n0 N ops bf l T M w0 env0 h0 wst d0 (fun j=>S j∨j=i) c' G' tm' env' w' a'∧Steps P (lone (Ev.mk F a (.inRegion opsA (i :: rest) :: k)) cs w) (lone (Ev.mk F a' (.inRegion opsA rest :: k)) cs w'):=by
 subst hA
 have ho':opsA[i]? =some o:=by simpa using ho
 have he:=fl_eff hfl
 have hw':Region.wanted o (yielded opsA a.tmps)=true:=wantV_ok ((I.agreeW L ho hS hr).trans hw) I.ts
 have hv':opV P ⟨.lf,n0+i,0⟩ (ev0 tmS) o.op=some (v,hf):=by
  rw [←opV_congr fun x hx=>I.agreeOp L ho hS hr hx]
  exact hv
 obtain ⟨vs,C,t,u,rfl,k2,k3,k4⟩:=opF (w:=w) hfl (ev0_ok I.ts) hv'
 have hbb:b= .cells vs t:=by
  unfold newV at hb
  rw [H.get_new,if_pos rfl] at hb
  exact (Option.some.inj hb).symm
 have hlt:=I.fln ho hfl
 have hun:=I.un i o ho hfl hS
 have hfle:G.fl≤n0+i:=by rw [I.hg.fl];omega
 obtain ⟨x1,le1,g1⟩:=I.x.add hun hlt hfle (C:=C) (t:=t) k2
 have s1:=st_value (P:=P) (F:=F) (a:=a) (k:=k) (cs:=cs) (rest:=rest) ho' hw' (opV_defer hv) k3 (.inl rfl)
 obtain ⟨tm',t1,t2⟩:=I.newT L ho hS hr hp
 obtain ⟨t3,t4⟩:=Qda t1 (I.ts.mono le1) (k4 _ (Env.ext_self _ _ _))
 refine ⟨c,G,tm',_,_,a.put o.dst u,I.plain L ho he hr (x1.mono fun n y hq=>?_) (g1 (by omega) I.gn) (fun j y hj hy hn hne=>?_) t3 t2 (t4.trans I.df),.one s1⟩
 ·obtain ⟨j,h1,h2,h3⟩:=hq
  rcases h1 with h1 | rfl
  · exact .inl ⟨j,h1,h2,h3⟩
  · obtain ⟨o2,h4,h5,h6,h7,v2,hf2,h8,h9⟩:=h2
    rw [ho] at h4
    cases h4
    rw [hv] at h8
    cases h8
    rw [hb] at h9
    cases h9
    exact .inr ⟨h6,hbb⟩
 ·unfold Env.ext
  rw [if_neg (by omega)]
  exact I.un j y hj hy hn
theorem Iv.met (L:Lg P go n0 N ops bf l T M) (hn0:n0=h0.n) (hfl0:h0.fl≤h0.n) (I:Iv P n0 N ops bf l T M w0 env0 h0 wst d0 S c G tmS env w a) {i:Nat} {o:Oper} {row:Row} (ho:ops[i]? =some o) (hanc:∀ j,bit row.anc j=anB bf i j)
  (hc:c=En ops i) (hr:∀ j,anB bf i j=true→S j):
  HRP w0 env (mergeA row.anc (M i).ps G) w (fun n y=>Pd P n0 ops bf T S c n y∧∀ p∈(M i).ps,bit row.anc p.1=true→n≠p.2.1)∧HG h0 (mergeA row.anc (M i).ps G)∧(mergeA row.anc (M i).ps G).n=G.n∧(mergeA row.anc (M i).ps G).fl=G.fl∧
  (∀ b z e,G.get b=some z→z.live→env b=some e→(mergeA row.anc (M i).ps G).get b=G.get b)∧∀ p∈(M i).ps,p.2.1=n0+p.1:=by
 have hi:i < ops.length:=(List.getElem?_eq_some_iff.1 ho).1
 obtain ⟨ps1,ps2⟩:=L.psOk i (by omega)
 have hnn:∀ p∈(M i).ps,p.2.1=n0+p.1:=fun p hp=>by
  obtain ⟨_,⟨_,_,_,h,_⟩,_⟩:=ps1 p hp
  exact h
 have hpd:∀ p∈(M i).ps,bit row.anc p.1=true→Pd P n0 ops bf T S c p.2.1 p.2.2:=fun p hp hb=>by
  obtain ⟨_,h2,h3⟩:=ps1 p hp
  rw [hanc] at hb
  exact ⟨p.1,hr _ hb,h2,by rw [hc];exact h3⟩
 obtain ⟨x1,n1,f1,o1⟩:=I.x.mergeA row.anc (M i).ps hpd (ps2.imp_of_mem fun {p q} hp hq h=>by rw [hnn p hp,hnn q hq];omega)
 refine ⟨x1,⟨f1.trans I.hg.fl,by rw [n1];exact I.hg.n,fun b hb=>?_,fun b z hb hz hl=>?_⟩,n1,f1,fun b z e hz hl hbe=>?_,hnn⟩
 ·rw [o1 b fun p hp _=>by rw [hnn p hp];omega]
  exact I.hg.low b hb
 ·rw [o1 b fun p hp _=>by rw [hnn p hp];omega] at hz
  exact I.hg.live b z hb hz hl
 ·refine o1 b fun p hp hbp hbe2=>?_
  obtain ⟨_,_,_,e',h1,_,h2⟩:=I.x.q _ _ (hpd p hp hbp)
  rw [←hbe2,hbe] at h1
  cases h1
  exact h2 b z e hz hl hbe rfl
theorem Iv.effD (L:Lg P go n0 N ops bf l T M) (hg:SndV P w0 go) (hn0:n0=h0.n) (hfl0:h0.fl≤h0.n) (hf0:∀ x,h0.n≤x→env0 x=none) {opsA:Array Oper} (hA:opsA.toList=ops) (I:Iv P n0 N ops bf l T M w0 env0 h0 wst d0 S c G tmS env w a) {i:Nat} {o:Oper} {row:Row} (ho:ops[i]? =some o) (hrow:l[i]? =some row) (he:effB o.op=true)
   (hS: ¬ S i) (hr:∀ j,anB bf i j=true→S j) (hw:wantV ops (tget (T i)) o=some true) {v:V} (hM:Did P go n0 (ev0 (T i)) row (M i) G v (M (i+1))) (hp:putT N (T i) v o.dst=some (T (i+1))) (F:FS) (k:List Item) (cs:List Frame) (rest:List Nat):
   ∃ c' G' tm' env' w' a',Iv P n0 N ops bf l T M w0 env0 h0 wst d0 (fun j=>S j∨j=i) c' G' tm' env' w' a'∧Steps P (lone (Ev.mk F a (.inRegion opsA (i :: rest) :: k)) cs w) (lone (Ev.mk F a' (.inRegion opsA rest :: k)) cs w'):=by
 subst hA
 have hi:i < opsA.toList.length:=(List.getElem?_eq_some_iff.1 ho).1
 have ho':opsA[i]? =some o:=by simpa using ho
 have hw':Region.wanted o (yielded opsA a.tmps)=true:=wantV_ok ((I.agreeW L ho hS hr).trans hw) I.ts
 obtain ⟨row',h1,rfl,hri,hanc,heff,hrd,hfl,hst1,hst2,hfull,hhalf⟩:=L.od.row i o ho
 rw [hrow] at h1
 cases h1
 have hc:=I.stage L ho he hS hr
 obtain ⟨X,HGm,mn,mf,mget,hnn⟩:=I.met L hn0 hfl0 ho hanc hc hr
 generalize hmE:mergeA row.anc (M i).ps G=hm at X HGm mn mf mget hM
 have e1:=En_succ opsA.toList i ho
 rw [if_pos he] at e1
 have e2:=L.hsLen i (by omega)
 have nord:∀ kk y rw',opsA.toList[kk]? =some y→l[kk]? =some rw'→rdB y.op=true→¬ S kk→kk≠i→rw'.st≤c→anB bf i kk=false∧anB bf kk i=false:=fun kk y rw' hk hkr hkd hkS hne hst=>by
   refine ⟨?_,?_⟩
   · cases hb:anB bf i kk with
     | false=>rfl
     | true=>exact absurd (hr kk hb) hkS
   · cases hb:anB bf kk i with
     | false=>rfl
     | true=>
       obtain ⟨r2,k1,_,_,_,_,_,_,k2,_⟩:=L.od.row kk y hk
       rw [hkr] at k1
       cases k1
       have:=k2 i _ ho he hb
       omega
 have fin:∀ (G':H) (μ:Option Nat) (u:Value) (w':World) (env':Env),(M (i+1)).hs=(G',μ) :: (M i).hs→VR env' v u→HR w0 env' G' w'→Gn env hm w env' w'→HG hm G'→
     Steps P (lone (Ev.mk F a (.inRegion opsA (i :: rest) :: k)) cs w) (lone (Ev.mk F (a.put row.o.dst u) (.inRegion opsA rest :: k)) cs w')→
     (∀ kk y rw' b z e,opsA.toList[kk]? =some y→l[kk]? =some rw'→rdB y.op=true→kk≠i→wantV opsA.toList (tget (T kk)) y=some true→rdO (ev0 (T kk)) y.op=some b→anB bf i kk=false→anB bf kk i=false→rw'.st≤c→hm.get b=some z→env b=some e→b < hm.n→G'.get b=hm.get b)→
     ∃ c' G' tm' env' w' a',Iv P n0 N opsA.toList bf l T M w0 env0 h0 wst d0 (fun j=>S j∨j=i) c' G' tm' env' w' a'∧Steps P (lone (Ev.mk F a (.inRegion opsA (i :: rest) :: k)) cs w) (lone (Ev.mk F a' (.inRegion opsA rest :: k)) cs w'):=by
   intro G' μ u w' env' hhs v1 r1 g1 q1 s1 hsame
   obtain ⟨tm',t1,t2⟩:=I.newT L ho hS hr hp
   obtain ⟨t3,t4⟩:=Qda t1 (I.ts.mono g1.le) v1
   have hgs:gs (M opsA.toList.length).hs (c+1)=some (G',μ):=by
     rw [L.gsAt (i:=i+1) (by omega) (by omega),hhs,show c+1=(M i).hs.length by omega,gs_head]
   refine ⟨c+1,G',tm',env',w',a.put row.o.dst u,I.effs L ho he hS hr hgs ((X.step r1 g1 q1).mono fun n y hq=>?_) (Gn.trans hf0 HGm I.gn g1) (HGm.trans q1) (by rw [←mn];exact q1.n) (fun j y hj hy hn hne=>?_) t3 t2 (t4.trans I.df) (fun kk y rw' b hk hkr hkd hkS hne hkw hkb hst=>?_),s1⟩
   · obtain ⟨j,h1,h2,h3⟩:=hq
     rcases h1 with h1 | rfl
     · refine ⟨⟨j,h1,h2,fun hm2=>h3 (hm2.mono (by omega))⟩,fun p hpm hpb hne=>?_⟩
       have e3:=hnn p hpm
       obtain ⟨_,_,_,e4,_⟩:=h2
       have:j=p.1:=by omega
       rw [hanc, ←this] at hpb
       exact h3 ⟨i,_,ho,he,hw,by omega,hpb⟩
     · obtain ⟨o2,h4,h5,_⟩:=h2
       rw [ho] at h4
       cases h4
       rw [fl_eff h5] at he
       cases he
   · rw [g1.old _ (by rw [mn];exact I.fln hj hy)]
     exact I.un j y hj hy hn
   · obtain ⟨_,_,_,g,m,v2,h2',k1,k2,_⟩:=L.loadAt hk hkr hkd hkw hkb
     have k3:=I.ld kk y rw' b hk hkr hkd hkS hkw hkb hst g m k1
     obtain ⟨⟨cl,tt,k4⟩,_⟩:=opV_load (h2:=g) hkd hkb k2
     rw [←k3] at k4
     obtain ⟨e,k5,_⟩:=I.x.hr.get _ _ k4
     have k6:=mget b _ e k4 trivial k5
     obtain ⟨n1,n2⟩:=nord kk y rw' hk hkr hkd hkS hne hst
     rw [hsame kk y rw' b _ e hk hkr hkd hne hkw hkb n1 n2 hst (k6.trans k4) k5 (by
       rw [mn]
       rcases Nat.lt_or_ge b G.n with h | h
       ·exact h
       ·rw [I.x.hr.fresh b h] at k5;cases k5),k6]
 have congr:∀ {f xs},Qbk row.o.op=some (f,xs)→ev0 (T i) f=ev0 tmS f∧lmap (ev0 (T i)) xs=lmap (ev0 tmS) xs:=fun {f xs} hcal=>by
   obtain ⟨cl,h1,h2,h3⟩:=calleeO_some hcal
   have hin:∀ x,x=f∨x∈xs→ev0 (T i) x=ev0 tmS x:=fun x hx=>I.agreeOp L ho hS hr (by
     rw [h1]
     simp only [Op.operands,Call.operands,h2]
     rcases hx with rfl | hx
     · simp
     · simp [←h3] at hx ⊢
       exact .inr hx)
   exact ⟨hin f (.inl rfl),Qdl fun x hx=>hin x (.inr hx)⟩
 generalize hMM:M (i+1)=S' at hM
 cases hM with
 | full f xs v h' _ hcal hfu hgo=>
   rw [hmE] at hgo
   obtain ⟨c1,c2⟩:=congr hcal
   rw [c1,c2] at hgo
   have hv':oneO P go hm (ev0 tmS) row.o.op=some (v,h'):=by
     unfold oneO
     rw [hcal]
     show valO (go _)=_
     rw [hgo]
     rfl
   obtain ⟨u,w',env',s1,v1,r1,g1,q1⟩:=oneO_ok hg X.hr (ev0_ok I.ts) hv' F k cs opsA i rest ho' hw'
   refine fin h' none u w' env' (by rw [hMM]) v1 r1 g1 q1 s1 fun kk y rw' b z e hk hkr hkd hne hkw hkb n1 n2 hst hz hbe hlt=>?_
   rcases hfull hfu kk y hk (Ne.symm hne) hkd with h | h
   · rw [n1] at h;cases h
   · rw [n2] at h;cases h
 | part f xs v h' _ hcal hgo=>
   rw [hmE] at hgo
   obtain ⟨c1,c2⟩:=congr hcal
   rw [c1,c2] at hgo
   have hv':oneO P go (raise (kR (M i) row hm) hm) (ev0 tmS) row.o.op=some (v,h'):=by
     unfold oneO
     rw [hcal]
     show valO (go _)=_
     rw [hgo]
     rfl
   have hkk:hm.fl≤kR (M i) row hm∧kR (M i) row hm≤hm.n:=by
     unfold kR
     have a1:=L.kAt (i:=i) (by omega)
     have a2:=I.nn
     have a3:=I.hg.fl
     have a4:=X.hr.fl
     cases row.half with
     | false=>exact ⟨a4,Nat.le_refl _⟩
     | true=>
       refine ⟨?_,?_⟩
       ·show hm.fl≤kOf _
        omega
       ·show kOf _≤hm.n
        omega
   obtain ⟨u,w',env',s1,v1,r1,g1,q1⟩:=oneO_ok hg (X.hr.raise hkk.1 hkk.2) (ev0_ok I.ts) hv' F k cs opsA i rest ho' hw'
   obtain ⟨r2,g2,q2,same⟩:=X.hr.lower hkk.1 r1 g1 q1
   refine fin _ none u w' env' (by rw [hMM,hmE]) v1 r2 g2 q2 s1 fun kk y rw' b z e hk hkr hkd hne hkw hkb n1 n2 hst hz hbe hlt=>same b ?_
   unfold kR
   cases hh:row.half with
   | false=>exact hlt
   | true=>
     show b < kOf _
     rw [L.kAt (i:=i) (by omega)]
     rcases hhalf hh kk y rw' hk hkr (Ne.symm hne) hkd with h | h | h
     · rw [n1] at h;cases h
     · rw [n2] at h;cases h
     · obtain ⟨_,_,_,g,m,v2,h2',k1,k2,_⟩:=L.loadAt hk hkr hkd hkw hkb
       rw [h] at k1
       obtain ⟨⟨cl,tt,k4⟩,_⟩:=opV_load (h2:=g) hkd hkb k2
       exact L.old k1 k4
 | eff v h' _ hcal hfree hv=>
   rw [hmE] at hv
   have hv':oneO P go hm (ev0 tmS) row.o.op=some (v,h'):=by
     unfold oneO
     rw [hcal]
     show opV P hm (ev0 tmS) row.o.op=_
     rw [←opV_congr fun x hx=>I.agreeOp L ho hS hr hx]
     exact hv
   obtain ⟨u,w',env',s1,v1,r1,g1,q1⟩:=oneO_ok hg X.hr (ev0_ok I.ts) hv' F k cs opsA i rest ho' hw'
   refine fin h' _ u w' env' (by rw [hMM]) v1 r1 g1 q1 s1 fun kk y rw' b z e hk hkr hkd hne hkw hkb n1 n2 hst hz hbe hlt=>opV_mod he hv hlt ?_
   have hki:kk < opsA.toList.length:=(List.getElem?_eq_some_iff.1 hk).1
   obtain ⟨l1,l2,l3,_⟩:=L.loadAt hk hkr hkd hkw hkb
   rcases Nat.lt_or_ge kk i with h3 | h3
   · have:=L.lsMem l1 i (by omega) (by omega)
     rcases freeOf_mem hfree _ this with h4 | h4
     · rw [hanc] at h4
       simp only [n1] at h4
       cases h4
     · exact neO_ne h4
   · have h4:En opsA.toList i < En opsA.toList kk:=(En_lt ho he).2 (by omega)
     have h5:gs (M kk).hs (c+1)=some (h',modO (ev0 (T i)) row.o.op):=by
       rw [←L.gsAt (by omega) (by omega),L.gsAt (i:=i+1) (by omega) (by omega),hMM]
       show gs ((h',modO (ev0 (T i)) row.o.op) :: (M i).hs) (c+1)=_
       rw [show c+1=(M i).hs.length by omega,gs_head]
     have h6:=L.hsLen kk (by omega)
     unfold gs at h5
     rw [List.getElem?_reverse (by omega)] at h5
     exact neO_ne (freeMs_get l2 _ _ (by omega) h5)
 | float q v hf b he'=>rw [heff,he] at he';cases he'
 | load b g m v h' he'=>rw [heff,he] at he';cases he'
 | pure v h' he'=>rw [heff,he] at he';cases he'
end
end Go.Ev
namespace Go.Ev
open Go
set_option linter.unusedVariables false
set_option linter.unusedSimpArgs false
section
variable {P:Program} {go:Task→Option Out} {n0 N:Nat} {ops:List Oper} {bf:List Nat} {l:List Row} {T:Nat→TT V} {M:Nat→Ms} {w0:World} {env0:Env} {h0:H} {wst:World} {d0:List Deferred}
 {S:Nat→Prop} {c:Nat} {G:H} {tmS:TT V} {env:Env} {w:World} {a:Act}
theorem Iv.step (L:Lg P go n0 N ops bf l T M) (hg:SndV P w0 go) (hn0:n0=h0.n) (hfl0:h0.fl≤h0.n) (hf0:∀ x,h0.n≤x→env0 x=none) {opsA:Array Oper} (hA:opsA.toList=ops) (I:Iv P n0 N ops bf l T M w0 env0 h0 wst d0 S c G tmS env w a) {i:Nat} {o:Oper} (ho:ops[i]? =some o)
  (hS: ¬ S i) (hr:∀ j,anB bf i j=true→S j) (F:FS) (k:List Item) (cs:List Frame) (rest:List Nat):
  ∃ c' G' tm' env' w' a',Iv P n0 N ops bf l T M w0 env0 h0 wst d0 (fun j=>S j∨j=i) c' G' tm' env' w' a'∧Steps P (lone (Ev.mk F a (.inRegion opsA (i :: rest) :: k)) cs w) (lone (Ev.mk F a' (.inRegion opsA rest :: k)) cs w'):=by
 have hi:i < ops.length:=(List.getElem?_eq_some_iff.1 ho).1
 obtain ⟨row,hrow,rfl,hri,hanc,heff,hrd,hfl,hst1,hst2,hfull⟩:=L.od.row i o ho
 obtain ⟨h,m,rst,hh,h2 | h2⟩:=Qbx (L.st i row hrow)
 ·exact I.pass L hA ho hrow hS hr h2.1 F k cs rest
 ·obtain ⟨hw,v,d,hp⟩:=h2
  cases he:effB row.o.op with
  | true=>
    obtain rfl:=I.head L hi (I.stage L ho he hS hr) hh
    exact I.effD L hg hn0 hfl0 hf0 hA ho hrow he hS hr hw d hp F k cs rest
  | false=>
    generalize M (i+1)=S' at d
    cases d with
    | full f xs v h' he'=>rw [heff,he] at he';cases he'
    | part f xs v h' he'=>rw [heff,he] at he';cases he'
    | eff v h' he'=>rw [heff,he] at he';cases he'
    | float q v hf b he' hq hv hb=>
      rw [hfl] at hq
      split at hq
      ·rename_i hfb
       cases hq
       exact I.fresh L hn0 hfl0 hA ho hfb hS hr hw hv hb hp F k cs rest
      ·cases hq
    | load b g m v h' he' hq hr' hb hm hgl hv=>
      rw [hrd] at hr'
      obtain ⟨_,hfb⟩:=rd_eff hr'
      have hstle:row.st≤c:=by
       rcases hst2 with h | ⟨j,y,k1,k2,k3,k4⟩
       · omega
       · have:=(I.eff j y k1 k2).1 (hr j k3);omega
      have hstE:row.st≤En ops i:=by
       rcases hst2 with h | ⟨j,y,k1,k2,k3,k4⟩
       · omega
       · have:=(En_lt k1 k2).2 (L.od.lt i _ ho j k3);omega
      have e2:=L.hsLen i (by omega)
      rw [gs_lget (by omega), ←L.gsAt (by omega) hstE] at hgl
      have:=I.ld i _ row b ho hrow hr' hS hw hb hstle g m hgl
      exact I.calm L hg hf0 hA ho he hfb hS hr hw ((opV_load hr' hb hv).2 this) hp F k cs rest
    | pure v h' he' hq hr' hv=>
      have hfb:flB row.o.op=false:=by
       cases hx:flB row.o.op with
       | false=>rfl
       | true=>rw [hfl,if_pos hx] at hq;cases hq
      exact I.calm L hg hf0 hA ho he hfb hS hr hw (opV_pure hfb he (by rw [←hrd];exact hr') hv G) hp F k cs rest
end
def cnt (b:Array Bool):Nat→Nat
 | 0=>0
 | n+1=>cnt b n+if b.getD n true=true then 0 else 1
theorem getD_set (b:Array Bool) (i j:Nat) (d:Bool):(b.setIfInBounds i true).getD j d=if i=j∧i < b.size then true else b.getD j d:=by
 simp only [Array.getD_eq_getD_getElem?, Array.getElem?_setIfInBounds]
 by_cases h:i=j
 ·subst h
  by_cases h2:i < b.size
  ·simp [h2]
  ·simp [h2]
 ·simp [h]
theorem cnt_far (b:Array Bool) (i:Nat):∀ n,n≤i→cnt (b.setIfInBounds i true) n=cnt b n
 | 0,_=>rfl
 | n+1,h=>by
   unfold cnt
   rw [cnt_far b i n (by omega),getD_set,if_neg (show ¬ (i=n∧i < b.size) by omega)]
theorem cnt_set (b:Array Bool) {i:Nat} (hi:b.getD i true=false):∀ n,i < n→cnt (b.setIfInBounds i true) n+1=cnt b n
 | 0,h=>by omega
 | n+1,h=>by
   have hs:i < b.size:=by
    rcases Nat.lt_or_ge i b.size with h1 | h1
    ·exact h1
    ·simp [Array.getD,Nat.not_lt.2 h1] at hi
   unfold cnt
   by_cases hn:i=n
   ·subst hn
    rw [cnt_far b i i (Nat.le_refl _),getD_set,if_pos (show i=i∧i < b.size from ⟨rfl,hs⟩),hi]
    simp
   ·have:=cnt_set b hi n (by omega)
    rw [getD_set,if_neg (show ¬ (i=n∧i < b.size) by omega)]
    omega
theorem cnt_zero (b:Array Bool):∀ n,cnt b n=0→∀ i,i < n→b.getD i true=true
 | 0,_,i,h=>by omega
 | n+1,h,i,hi=>by
   unfold cnt at h
   by_cases hn:i=n
   ·subst hn
    by_cases hb:b.getD i true=true
    ·exact hb
    ·rw [if_neg hb] at h;omega
   ·exact cnt_zero b n (by omega) i (by omega)
theorem cnt_le (b:Array Bool):∀ n,cnt b n≤n
 | 0=>Nat.le_refl _
 | n+1=>by
   have:=cnt_le b n
   unfold cnt
   split <;> omega
theorem getD_true {b:Array Bool} {i:Nat} (hi:i < b.size):b.getD i true=b.getD i false:=by
 simp [Array.getD,hi]
section
variable {P:Program} {go:Task→Option Out} {n0 N:Nat} {bf:List Nat} {l:List Row} {T:Nat→TT V} {M:Nat→Ms} {w0:World} {env0:Env} {h0:H} {wst:World} {d0:List Deferred} {opsA:Array Oper}
theorem ready_mem {b:Array Bool} (hb:b.size=opsA.size) {i:Nat} {o:Oper} (ho:opsA[i]? =some o):i∈Region.ready .any opsA b↔b.getD i false=false∧∀ e∈o.after.toList,Region.binds .any e=true→b.getD e.on false=true:=by
 have hi:i < opsA.size:=(Array.getElem?_eq_some_iff.1 ho).1
 unfold Region.ready
 rw [List.mem_filter,ho]
 simp only [List.mem_range,hi,true_and,Option.map_some,Option.getD_some,Bool.and_eq_true,Bool.not_eq_true',getD_true (show i < b.size by omega),Array.all_eq_true']
 refine and_congr_right fun _=>⟨fun h e he hb=>?_,fun h e he=>?_⟩
 ·have:=h e (by simpa using he)
  rw [hb] at this
  simpa using this
 ·cases hx:Region.binds .any e with
  | false=>rfl
  | true=>rw [h e (by simpa using he) hx];rfl
theorem sched_ok (L:Lg P go n0 N opsA.toList bf l T M) (hg:SndV P w0 go) (hn0:n0=h0.n) (hfl0:h0.fl≤h0.n) (hf0:∀ x,h0.n≤x→env0 x=none) (F:FS) (k:List Item) (cs:List Frame):
   ∀ (fuel t:Nat) (b:Array Bool) (c:Nat) (G:H) (tmS:TT V) (env:Env) (w:World) (a:Act),b.size=opsA.size→cnt b opsA.size≤fuel→Iv P n0 N opsA.toList bf l T M w0 env0 h0 wst d0 (fun i=>b.getD i false=true) c G tmS env w a→
   ∃ S c' G' tm' env' w' a',(∀ i,i < opsA.size→S i)∧Iv P n0 N opsA.toList bf l T M w0 env0 h0 wst d0 S c' G' tm' env' w' a'∧Steps P (lone (mk F a (.inRegion opsA (Region.linearise.go .any opsA fuel t b []) :: k)) cs w) (lone (mk F a' (.inRegion opsA [] :: k)) cs w')
 | 0,t,b,c,G,tmS,env,w,a,hb,hc,I=>by
   refine ⟨_,c,G,tmS,env,w,a,fun i hi=>?_,I,Steps.refl _ _⟩
   have:=cnt_zero b opsA.size (by omega) i hi
   rw [getD_true (by omega)] at this
   exact this
 | fuel+1,t,b,c,G,tmS,env,w,a,hb,hc,I=>by
   simp only [Region.linearise.go]
   change ∃ S c' G' tm' env' w' a',(∀ i,i < opsA.size→S i)∧Iv P n0 N opsA.toList bf l T M w0 env0 h0 wst d0 S c' G' tm' env' w' a'∧Steps P (lone (mk F a (.inRegion opsA (match (Region.ready .any opsA b)[t % (Region.ready .any opsA b).length]? with
     | some i=>Region.linearise.go .any opsA fuel (t / (Region.ready .any opsA b).length) (b.setIfInBounds i true) [i]
     | none=>[].reverse) :: k)) cs w) (lone (mk F a' (.inRegion opsA [] :: k)) cs w')
   cases hx:(Region.ready .any opsA b)[t % (Region.ready .any opsA b).length]? with
   | none=>
     have hnil:Region.ready .any opsA b=[]:=by
       cases hr:Region.ready .any opsA b with
       | nil=>rfl
       | cons x xs=>
         rw [hr] at hx
         have hlt:t % (x :: xs).length < (x :: xs).length:=Nat.mod_lt _ (by simp)
         simp at hx
         simp at hlt
         omega
     have all:∀ i,i < opsA.size→b.getD i false=true:=fun i=>by
       induction i using Nat.strongRecOn with
       | ind i ih=>
         intro hi
         have ho:opsA[i]? =some opsA[i]:=Array.getElem?_eq_getElem hi
         cases hv:b.getD i false with
         | true=>rfl
         | false=>
           have:i∈Region.ready .any opsA b:=(ready_mem hb ho).2 ⟨hv,fun e he hbe=>by
            have ho2:opsA.toList[i]? =some opsA[i]:=by simp [ho]
            have h1:=L.od.lt i _ ho2 e.on (L.od.edge i _ ho2 e he hbe)
            exact ih e.on h1 (by omega)⟩
           rw [hnil] at this
           cases this
     exact ⟨_,c,G,tmS,env,w,a,all,I,Steps.refl _ _⟩
   | some i=>
     have hmem:=List.mem_of_getElem? hx
     have hi:i < opsA.size:=by
       unfold Region.ready at hmem
       have:=(List.mem_filter.1 hmem).1
       simpa using this
     have ho:opsA[i]? =some opsA[i]:=Array.getElem?_eq_getElem hi
     obtain ⟨h1,h2⟩:=(ready_mem hb ho).1 hmem
     simp only []
     rw [linearise_go_acc,List.reverse_singleton,List.singleton_append]
     have ho2:opsA.toList[i]? =some opsA[i]:=by simp [ho]
     obtain ⟨c1,G1,tm1,env1,w1,a1,I1,s1⟩:=I.step L hg hn0 hfl0 hf0 rfl ho2 (by rw [h1];simp) (fun j hj=>by
       obtain ⟨e,he,hbe,hej | hej⟩:=L.od.down i _ ho2 j hj
       · rw [←hej];exact h2 e he hbe
       · exact I.down e.on (h2 e he hbe) j hej) F k cs (Region.linearise.go .any opsA fuel (t / (Region.ready .any opsA b).length) (b.setIfInBounds i true) [])
     have hSS:(fun j=>b.getD j false=true∨j=i)=(fun j=>(b.setIfInBounds i true).getD j false=true):=by
       funext j
       rw [getD_set]
       by_cases hj:i=j
       · subst hj;rw [if_pos ⟨rfl,by omega⟩];simp
       · rw [if_neg fun h=>hj h.1]
         simp only [eq_iff_iff]
         exact ⟨fun h=>h.elim id fun h=>absurd h.symm hj,.inl⟩
     rw [hSS] at I1
     have hcs:=cnt_set b (i:=i) (by rw [getD_true (by omega)];exact h1) opsA.size hi
     obtain ⟨S,c',G',tm',env',w',a',k1,k2,k3⟩:=sched_ok L hg hn0 hfl0 hf0 F k cs fuel (t / (Region.ready .any opsA b).length) (b.setIfInBounds i true) c1 G1 tm1 env1 w1 a1 (by simpa using hb) (by omega) I1
     exact ⟨S,c',G',tm',env',w',a',k1,k2,s1.trans k3⟩
end
theorem drawOK {P:Program} {w0:World} (hm:P.follows .mixedOrders=true):DrawOK P w0:=by
 intro go hg N id ops tm ds h e tm' ds' h' hv env w a F k cs hr ht hd
 unfold runDraw at hv
 split at hv
 ·rename_i l hl
  obtain ⟨bf,od⟩:=drawO_ok hl
  unfold endRows at hv
  split at hv
  ·rename_i tmF hE mE hsE lsE psE hrun
   cases hv
   obtain ⟨T,M,t0,m0,tE,mE2,st⟩:=runRows_log hrun
   rw [od.len] at tE mE2
   have L:Lg P go h.n N ops.toList bf l T M:=⟨od,st,by rw [m0];exact ⟨rfl,rfl,rfl⟩,⟨_,none,by rw [m0],rfl,fun b y hb=>by
    obtain ⟨e,h1,_⟩:=hr.get b y hb
    rcases Nat.lt_or_ge b h.n with h2 | h2
    ·exact Nat.lt_of_lt_of_le h2 (Nat.le_add_right _ _)
    ·rw [hr.fresh b h2] at h1;cases h1⟩⟩
   have g0:gs (M ops.toList.length).hs 0=some (⟨h.t,h.n+flN ops.toList,h.fl⟩,none):=by
    rw [L.gsAt (i:=0) (Nat.zero_le _) (Nat.zero_le _),m0]
    rfl
   have hr1:HR w0 env h w.drew:=HR.heap (w:=w) (w':=w.drew) rfl rfl rfl rfl hr
   have hr2:HR w0 env ⟨h.t,h.n+flN ops.toList,h.fl⟩ w.drew:=⟨fun b hb=>hr1.fresh b (by have:h.n+flN ops.toList≤b:=hb;omega),hr1.lt,hr1.get,hr1.inj,by have:=hr1.fl;show h.fl≤h.n+flN ops.toList;omega,hr1.bel,hr1.low⟩
   have I0:Iv P h.n N ops.toList bf l T M w0 env h w a.defers (fun i=>(Array.replicate ops.size false).getD i false=true) 0 ⟨h.t,h.n+flN ops.toList,h.fl⟩ tm env w.drew a:=by
    have no:∀ i,¬ ((Array.replicate ops.size false).getD i false=true):=fun i hi=>by
     simp only [Array.getD_eq_getD_getElem?, Array.getElem?_replicate] at hi
     split at hi <;> cases hi
    exact ⟨fun i hi=>absurd hi (no i),fun i hi=>absurd hi (no i),fun j o _ _=>⟨fun hi=>absurd hi (no j),fun hi=>absurd hi (Nat.not_lt_zero _)⟩,Nat.zero_le _,⟨none,g0⟩,
     ⟨hr2,fun n y ⟨i,hi,_⟩=>absurd hi (no i),fun n y _ _ _ _ ⟨i,hi,_⟩=>absurd hi (no i)⟩,Gn.heap rfl rfl rfl rfl,⟨rfl,Nat.le_add_right _ _,fun b _=>rfl,fun b z _ hb hz=>⟨z,hb,hz⟩⟩,Nat.le_refl _,
     fun i o _ _ _=>hr.fresh _ (Nat.le_add_right _ _),ht,fun t=>by
      rw [tW_eq L (i:=0) (fun j o _ _=>⟨fun hi=>absurd hi (no j),fun hi=>absurd hi (Nat.not_lt_zero _)⟩) _ (Nat.le_refl _),Nat.zero_min,t0],rfl,
     fun i o row b _ _ _ _ _ _ hst g μ hgs=>by
      rw [Nat.le_zero.1 hst,g0] at hgs
      cases hgs
      rfl⟩
   obtain ⟨S,c,G,tmS,env1,w1,a1,hall,I,s1⟩:=sched_ok L hg rfl hr.fl hr.fresh F k cs ops.size (w.tape w.drawn (.order F.fn id)) (Array.replicate ops.size false) 0 _ tm env w.drew a (by simp) (cnt_le _ _) I0
   have hlen:ops.toList.length=ops.size:=by simp
   have hc:c=En ops.toList ops.toList.length:=by
    rcases Nat.lt_or_ge c (En ops.toList ops.toList.length) with h1 | h1
    ·obtain ⟨j,o,h2,h3,h4,h5⟩:=En_find _ _ _ h1
     have:=(I.eff j o h3 h4).1 (hall j (by omega))
     omega
    ·have:=I.cle;omega
   have hG:hE=G:=by
    have h1:=L.hsLen ops.toList.length (Nat.le_refl _)
    rw [mE2] at h1
    simp only [List.length_cons] at h1
    obtain ⟨μ,h2⟩:=I.g
    rw [mE2,show c=hsE.length by omega] at h2
    simp only [gs_head] at h2
    cases h2
    rfl
   subst hG
   obtain ⟨ps1,ps2⟩:=L.psOk ops.toList.length (Nat.le_refl _)
   rw [mE2] at ps1 ps2
   simp only at ps1 ps2
   have hnn:∀ p∈psE,p.2.1=h.n+p.1:=fun p hp=>by
    obtain ⟨_,⟨_,_,_,h,_⟩,_⟩:=ps1 p hp
    exact h
   obtain ⟨x1,n1,f1,o1⟩:=I.x.mergeL psE (fun p hp=>by
    obtain ⟨h1,h2,h3⟩:=ps1 p hp
    exact ⟨p.1,hall _ (by omega),h2,by rw [hc];exact h3⟩) (ps2.imp_of_mem fun {p q} hp hq h=>by rw [hnn p hp,hnn q hq];omega)
   have ot:∀ b,b < h.n→(mergeL psE hE).get b=hE.get b:=fun b hb=>o1 b fun p hp=>by rw [hnn p hp];omega
   have hgE:HG h (mergeL psE hE):=⟨f1.trans I.hg.fl,by rw [n1];exact I.hg.n,fun b hb=>by
     rw [ot b (by have:=hr.fl;omega)];exact I.hg.low b hb,fun b z hb hz hl=>by
     rw [ot b hb] at hz;exact I.hg.live b z hb hz hl⟩
   have tt:TR env1 tm' N a1.tmps:=⟨I.ts.size,fun t=>by
    have h1:=I.ts.get t
    rw [I.tm,tW_eq L (i:=ops.toList.length) (fun j o hj _=>⟨fun _=>(List.getElem?_eq_some_iff.1 hj).1,fun h=>hall j (by omega)⟩) _ (Nat.le_refl _),Nat.min_self,tE] at h1
    exact h1⟩
   refine ⟨env1,w1,a1,x1.hr,I.gn,hgE,tt,by rw [I.df];exact hd.mono I.gn.le,?_⟩
   have s0:=st_draw (P:=P) (F:=F) (a:=a) (k:=k) (cs:=cs) (w:=w) (id:=id) (ops:=ops)
   have hsch:Region.schedule (P.follows .mixedOrders) ops (w.tape w.drawn (.order F.fn id))=Region.linearise.go .any ops ops.size (w.tape w.drawn (.order F.fn id)) (Array.replicate ops.size false) []:=by
    simp only [Region.schedule,hm,Bool.true_or,if_true]
    rfl
   rw [hsch] at s0
   exact (Steps.head s0 s1).trans (.one st_region_end)
  ·cases hv
 ·cases hv
end Go.Ev
namespace Go.Ev
open Go
theorem calls_of_evalF {P:Program} {nat:Nats} {n f:Nat} {xs:List V} {v:V} (hv:evalF P nat n f xs=some v) (hm:P.follows .mixedOrders=true) (w:World) (hnat:NatOK P w nat) {us:List Value} (hus:VRs (fun _=>none) xs us)
 (hf:∃ fn,P.funcs[f]? =some fn∧fn.body≠none∧numO fn=false) (hn:nat f=none):
 Calls P f ⟨us⟩ w fun e w'=>∃ u env',e= .returned u∧VR env' v u∧RowKit.Below w.heap.size w w':=evalF_ok hv w (drawOK hm) hnat hus hf hn
noncomputable def yesB:Option V→Bool
 | some (.b x)=>x
 | _=>false
theorem calls_true {P:Program} {nat:Nats} {n f:Nat} (hv:yesB (evalF P nat n f [])=true) (hm:P.follows .mixedOrders=true) (w:World) (hnat:NatOK P w nat)
  (hf:∃ fn,P.funcs[f]? =some fn∧fn.body≠none∧numO fn=false) (hn:nat f=none):
  Calls P f #[] w fun e w'=>e= .returned (.bool true)∧RowKit.Below w.heap.size w w':=by
 have h1:evalF P nat n f []=some (.b true):=by
  unfold yesB at hv
  split at hv
  · rename_i x hx;subst hv;exact hx
  · cases hv
 refine Calls.mono (calls_of_evalF h1 hm w hnat (us:=[]) (VRs.nil _) hf hn) ?_
 rintro e w' ⟨u,env',rfl,h2,h3⟩
 simp only [VR] at h2
 subst h2
 exact ⟨rfl,h3⟩
end Go.Ev
