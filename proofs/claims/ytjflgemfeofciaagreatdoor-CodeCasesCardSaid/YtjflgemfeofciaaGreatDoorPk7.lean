import Derived.Test.YtjflgemfeofciaaGreatDoorMZ2
import Derived.Test.YtjflgemfeofciaaGreatDoorMY1
import Derived.Test.YtjflgemfeofciaaGreatDoorLr5
namespace Go.Proofs.YtjflgemfeofciaaGreatDoor
open Go Go.Ev
set_option linter.unusedVariables false
set_option linter.unusedSimpArgs false
theorem meets_l1 {l:List Piece} (hl:lineB l=true) (r:Int × Int):∀ (ys:List Piece) (d:List Int) (e:List (Int × Int)) (k:Nat),l.drop k=ys→d.length+ys.length≤1000→e.length+ys.length≤1000→
   Qbh l r ys d e k=some (d ++ ((List.range' k ys.length).filter (cellB l r.1 r.2)).map (fun (i:Nat)=>(i:Int)),e ++ ((List.range' k ys.length).filter (cellB l r.1 r.2)).map (cellA l r.1 r.2))
 | [],d,e,k,_,_,_=>by rw [Qbh];simp
 | y :: ys,d,e,k,h,h1,h2=>by
   obtain ⟨hy,hs⟩:=Qfr h
   have hk:=(List.getElem?_eq_some_iff.1 hy).1
   rw [List.length_cons] at h1 h2
   have i1:=meets_l1 hl r ys d e (k+1) hs (by omega) (by omega)
   have i2:=fun c=>meets_l1 hl r ys (d ++ [(k:Int)]) (e ++ [c]) (k+1) hs (by simp only [List.length_append,List.length_singleton];omega) (by simp only [List.length_append,List.length_singleton];omega)
   have hA1:(cellA l r.1 r.2 k).1=max r.1 y.fr:=by unfold cellA;dsimp only;rw [if_pos hk,Qcx hy]
   rw [Qbh,List.length_cons,List.range'_succ,List.filter_cons,i1,ckT (decide_eq_true (by omega)),ckT (decide_eq_true (by omega))]
   by_cases hn:k+1 < l.length
   ·have hz:=List.getElem?_eq_getElem hn
    generalize l[k+1]=z at hz
    have hb:=line_fr hl hz
    have hA2:(cellA l r.1 r.2 k).2=min r.2 (z.fr - 1):=by unfold cellA;dsimp only;rw [if_pos hn,Qcx hz]
    have hc:cellA l r.1 r.2 k=(max r.1 y.fr,min r.2 (z.fr - 1)):=Prod.ext hA1 hA2
    rw [decide_eq_true (p:=((k+1:Nat):Int) < (l.length:Int)) (by omega),hz]
    simp only [cond_true,Option.bind_some,wr_id (show -9223372036854775808≤z.fr - 1∧z.fr - 1≤9223372036854775807 by omega),ckT (decide_eq_true (show d.length+1≤1000000 by omega)),ckT (decide_eq_true (show e.length+1≤1000000 by omega)),i2]
    have hB:cellB l r.1 r.2 k=decide (max r.1 y.fr≤min r.2 (z.fr - 1)):=by unfold cellB;rw [hA1,hA2]
    rw [hB]
    by_cases hc2:max r.1 y.fr≤min r.2 (z.fr - 1)
    ·rw [decide_eq_true hc2,cond_true,if_pos rfl,List.map_cons,List.map_cons,hc,List.append_assoc,List.append_assoc];rfl
    ·rw [decide_eq_false hc2,cond_false,if_neg (by decide)]
   ·have hA2:(cellA l r.1 r.2 k).2=r.2:=by unfold cellA;dsimp only;rw [if_neg hn]
    have hc:cellA l r.1 r.2 k=(max r.1 y.fr,r.2):=Prod.ext hA1 hA2
    rw [decide_eq_false (p:=((k+1:Nat):Int) < (l.length:Int)) (by omega)]
    simp only [cond_false,i2,ckT (decide_eq_true (show d.length+1≤1000000 by omega)),ckT (decide_eq_true (show e.length+1≤1000000 by omega))]
    have hB:cellB l r.1 r.2 k=decide (max r.1 y.fr≤r.2):=by unfold cellB;rw [hA1,hA2]
    rw [hB]
    by_cases hc2:max r.1 y.fr≤r.2
    ·rw [decide_eq_true hc2,cond_true,if_pos rfl,List.map_cons,List.map_cons,hc,List.append_assoc,List.append_assoc];rfl
    ·rw [decide_eq_false hc2,cond_false,if_neg (by decide)]
theorem meets_eq {l:List Piece} (hl:lineB l=true) {r:Int × Int} (hr:r.1≤r.2):Qcu l r=some ((cellP l r).map Prod.fst,(cellP l r).map Prod.snd):=by
 unfold Qcu
 cases l with
 | nil=>
   have hA:cellA [] r.1 r.2 0=(r.1,r.2):=rfl
   have hB:cellB [] r.1 r.2 0=true:=decide_eq_true hr
   have:cellP [] r=[((0:Int),r)]:=by
    unfold cellP cellN nCell
    show (((List.range 1).filter (cellB [] r.1 r.2)).map _)=_
    rw [show List.range 1=[0] from rfl,List.filter_cons,if_pos hB];rfl
   rw [this];rfl
 | cons p l=>
   have hn:=line_len hl
   rw [decide_eq_false (p:=((p :: l).length:Int)=0) (by rw [List.length_cons];omega),meets_l1 hl r (p :: l) [] [] 0 rfl (by simp only [List.length_nil];omega) (by simp only [List.length_nil];omega)]
   have e:(List.range' 0 (p :: l).length).filter (cellB (p :: l) r.1 r.2)=cellN (p :: l) r.1 r.2 (nCell (p :: l)):=by
    unfold cellN nCell
    rw [Nat.max_eq_left (by simp),List.range_eq_range']
   rw [e]
   unfold cellP
   simp only [cond_false,Option.bind_some,List.nil_append,List.map_map]
   rfl
theorem cellP_pos {l:List Piece} (hl:lineB l=true) {r:Int × Int} (h0:0≤r.1) (hr:r.1≤r.2):0 < (cellP l r).length:=by
 have e:((cellP l r).map Prod.snd)=cellL l r.1 r.2:=by
   unfold cellP cellL
   rw [List.map_map];rfl
 have e2:(cellP l r).length=(cellL l r.1 r.2).length:=by rw [←e,List.length_map]
 rw [e2]
 refine Nat.pos_of_ne_zero fun hz=>?_
 have hnil:cellL l r.1 r.2=[]:=List.length_eq_zero_iff.1 hz
 cases l with
 | nil=>
   unfold cellL cellN nCell at hnil
   have hB:cellB [] r.1 r.2 0=true:=decide_eq_true hr
   rw [show max ([]:List Piece).length 1=1 from rfl,show List.range 1=[0] from rfl,List.filter_cons,if_pos hB] at hnil
   cases hnil
 | cons p t=>
   rw [cellL_eq] at hnil
   have hf:p.fr=0:=lineB_first hl (p:=p) rfl
   have key:∀ (t:List Piece) (p:Piece),p.fr≤r.2→riseP (p :: t)→clL r.1 r.2 (p :: t)≠[]:=by
    intro t
    induction t with
    | nil=>intro p hp _ hh;rw [clL,if_pos (by omega)] at hh;cases hh
    | cons q t ih=>
      intro p hp hrise hh
      have hpq:=hrise.1
      rw [clL] at hh
      obtain ⟨h1,h2⟩:=List.append_eq_nil_iff.1 hh
      by_cases hq:q.fr≤r.2
      ·exact ih q hq hrise.2 h2
      ·rw [if_pos (by omega)] at h1;cases h1
   exact key t p (by omega) (line_rise hl) hnil
def stepR (v:Version) (f:Int) (Lt:Nat→Int × Int) (g:Nat) (X:List T_Case):List T_Case:=X.flatMap fun x=>(cellP (v.ln (5 * f.toNat+g)) (Lt g)).map fun z=>setC g x z.1 z.2
theorem stepR_len (v:Version) (f:Int) (Lt:Nat→Int × Int) (g:Nat) (X:List T_Case):(stepR v f Lt g X).length=X.length * (cellP (v.ln (5 * f.toNat+g)) (Lt g)).length:=Qfd (fun a=>by rw [List.length_map]) X
theorem step_cs (v:Version) (f:Int) (Lt:Nat→Int × Int) (n:Nat) (X:List T_Case):X.flatMap (csG v f Lt (n+1))=(stepR v f Lt (4 - n) X).flatMap (csG v f Lt n):=by
 unfold stepR
 rw [List.flatMap_assoc]
 congr 1
 funext x
 rw [csG,List.flatMap_map]
theorem flat_one {α β:Type} (g:α→β):∀ l:List α,(l.flatMap fun a=>[g a])=l.map g
 | []=>rfl
 | a :: l=>by rw [List.flatMap_cons,flat_one g l];rfl
def R5 (v:Version) (f:Int) (Lt:Nat→Int × Int):List T_Case:=stepR v f Lt 4 (stepR v f Lt 3 (stepR v f Lt 2 (stepR v f Lt 1 (stepR v f Lt 0 [x0C]))))
theorem csG_R5 (v:Version) (f:Int) (Lt:Nat→Int × Int):csG v f Lt 5 x0C=(R5 v f Lt).map (tndC v f):=by
 have e:csG v f Lt 5 x0C=[x0C].flatMap (csG v f Lt 5):=by simp
 have e0:csG v f Lt 0=fun x=>[tndC v f x]:=rfl
 rw [e,step_cs,step_cs,step_cs,step_cs,step_cs,e0,flat_one];rfl
theorem rin0 {q:List Int × List (Int × Int)} {k:Nat} {y:T_Case} (hy:[x0C][k]? =some y):∀ (zs:List (Int × (Int × Int))) (ys:List Int) (d:List T_Case) (j:Nat),ys=zs.map Prod.fst→q.2.drop j=zs.map Prod.snd→d.length+zs.length≤1000000→Qce q k ys d j=some (d ++ zs.map fun z=>setC 0 y z.1 z.2)
 | [],ys,d,j,h1,h2,h3=>by
   subst h1
   rw [List.map_nil,List.map_nil,Qce,List.append_nil]
 | z :: zs,ys,d,j,h1,h2,h3=>by
   subst h1
   obtain ⟨e1,e2⟩:=Qdh h2
   rw [List.length_cons] at h3
   have ih:=rin0 hy zs (zs.map Prod.fst) (d ++ [setC 0 y z.1 z.2]) (j+1) rfl e2 (by simp only [List.length_append,List.length_singleton];omega)
   have hat:atI [x0C] (k:Int)=some y:=by rw [atI_nat,hy]
   rw [List.map_cons,Qce]
   show Option.bind (atI [x0C] (k:Int)) _=_
   rw [hat,e1]
   simp only [Option.bind_some]
   rw [ckT (decide_eq_true (by omega))]
   show Qce q k _ (d ++ [setC 0 y z.1 z.2]) (j+1)=_
   rw [ih,List.map_cons,List.append_assoc];rfl
theorem rout0 {q:List Int × List (Int × Int)} {zs:List (Int × (Int × Int))} (h1:q.1=zs.map Prod.fst) (h2:q.2=zs.map Prod.snd):∀ (ys d:List T_Case) (k:Nat),[x0C].drop k=ys→d.length+ys.length * zs.length≤1000000→Qbr q ys.length d k=some (d ++ ys.flatMap fun y=>zs.map fun z=>setC 0 y z.1 z.2)
 | [],d,k,_,_=>by rw [List.length_nil,Qbr,List.flatMap_nil,List.append_nil]
 | y :: ys,d,k,h,h3=>by
   obtain ⟨hy,hs⟩:=Qfr h
   rw [List.length_cons,Nat.add_mul,Nat.one_mul] at h3
   have a:=rin0 (q:=q) (k:=k) hy zs q.1 d 0 h1 (by rw [List.drop_zero];exact h2) (by omega)
   have ih:=rout0 (q:=q) h1 h2 ys (d ++ zs.map fun z=>setC 0 y z.1 z.2) (k+1) hs (by rw [List.length_append,List.length_map];omega)
   rw [List.length_cons,Qbr,a]
   simp only [Option.bind_some]
   rw [ih,List.flatMap_cons,List.append_assoc]
theorem rin1 {q:List Int × List (Int × Int)} {k:Nat} {out:List T_Case} {y:T_Case} (hy:out[k]? =some y):∀ (zs:List (Int × (Int × Int))) (ys:List Int) (d:List T_Case) (j:Nat),ys=zs.map Prod.fst→q.2.drop j=zs.map Prod.snd→d.length+zs.length≤1000000→Qcc out q k ys d j=some (d ++ zs.map fun z=>setC 1 y z.1 z.2)
 | [],ys,d,j,h1,h2,h3=>by
   subst h1
   rw [List.map_nil,List.map_nil,Qcc,List.append_nil]
 | z :: zs,ys,d,j,h1,h2,h3=>by
   subst h1
   obtain ⟨e1,e2⟩:=Qdh h2
   rw [List.length_cons] at h3
   have ih:=rin1 hy zs (zs.map Prod.fst) (d ++ [setC 1 y z.1 z.2]) (j+1) rfl e2 (by simp only [List.length_append,List.length_singleton];omega)
   have hat:atI out (k:Int)=some y:=by rw [atI_nat,hy]
   rw [List.map_cons,Qcc]
   show Option.bind (atI out (k:Int)) _=_
   rw [hat,e1]
   simp only [Option.bind_some]
   rw [ckT (decide_eq_true (by omega))]
   show Qcc out q k _ (d ++ [setC 1 y z.1 z.2]) (j+1)=_
   rw [ih,List.map_cons,List.append_assoc];rfl
theorem rout1 {q:List Int × List (Int × Int)} {out:List T_Case} {zs:List (Int × (Int × Int))} (h1:q.1=zs.map Prod.fst) (h2:q.2=zs.map Prod.snd):∀ (ys d:List T_Case) (k:Nat),out.drop k=ys→d.length+ys.length * zs.length≤1000000→Qby out q ys.length d k=some (d ++ ys.flatMap fun y=>zs.map fun z=>setC 1 y z.1 z.2)
 | [],d,k,_,_=>by rw [List.length_nil,Qby,List.flatMap_nil,List.append_nil]
 | y :: ys,d,k,h,h3=>by
   obtain ⟨hy,hs⟩:=Qfr h
   rw [List.length_cons,Nat.add_mul,Nat.one_mul] at h3
   have a:=rin1 (q:=q) (k:=k) hy zs q.1 d 0 h1 (by rw [List.drop_zero];exact h2) (by omega)
   have ih:=rout1 (q:=q) h1 h2 ys (d ++ zs.map fun z=>setC 1 y z.1 z.2) (k+1) hs (by rw [List.length_append,List.length_map];omega)
   rw [List.length_cons,Qby,a]
   simp only [Option.bind_some]
   rw [ih,List.flatMap_cons,List.append_assoc]
theorem rin2 {q:List Int × List (Int × Int)} {k:Nat} {out:List T_Case} {y:T_Case} (hy:out[k]? =some y):∀ (zs:List (Int × (Int × Int))) (ys:List Int) (d:List T_Case) (j:Nat),ys=zs.map Prod.fst→q.2.drop j=zs.map Prod.snd→d.length+zs.length≤1000000→Qcb out q k ys d j=some (d ++ zs.map fun z=>setC 2 y z.1 z.2)
 | [],ys,d,j,h1,h2,h3=>by
   subst h1
   rw [List.map_nil,List.map_nil,Qcb,List.append_nil]
 | z :: zs,ys,d,j,h1,h2,h3=>by
   subst h1
   obtain ⟨e1,e2⟩:=Qdh h2
   rw [List.length_cons] at h3
   have ih:=rin2 hy zs (zs.map Prod.fst) (d ++ [setC 2 y z.1 z.2]) (j+1) rfl e2 (by simp only [List.length_append,List.length_singleton];omega)
   have hat:atI out (k:Int)=some y:=by rw [atI_nat,hy]
   rw [List.map_cons,Qcb]
   show Option.bind (atI out (k:Int)) _=_
   rw [hat,e1]
   simp only [Option.bind_some]
   rw [ckT (decide_eq_true (by omega))]
   show Qcb out q k _ (d ++ [setC 2 y z.1 z.2]) (j+1)=_
   rw [ih,List.map_cons,List.append_assoc];rfl
theorem rout2 {q:List Int × List (Int × Int)} {out:List T_Case} {zs:List (Int × (Int × Int))} (h1:q.1=zs.map Prod.fst) (h2:q.2=zs.map Prod.snd):∀ (ys d:List T_Case) (k:Nat),out.drop k=ys→d.length+ys.length * zs.length≤1000000→Qca out q ys.length d k=some (d ++ ys.flatMap fun y=>zs.map fun z=>setC 2 y z.1 z.2)
 | [],d,k,_,_=>by rw [List.length_nil,Qca,List.flatMap_nil,List.append_nil]
 | y :: ys,d,k,h,h3=>by
   obtain ⟨hy,hs⟩:=Qfr h
   rw [List.length_cons,Nat.add_mul,Nat.one_mul] at h3
   have a:=rin2 (q:=q) (k:=k) hy zs q.1 d 0 h1 (by rw [List.drop_zero];exact h2) (by omega)
   have ih:=rout2 (q:=q) h1 h2 ys (d ++ zs.map fun z=>setC 2 y z.1 z.2) (k+1) hs (by rw [List.length_append,List.length_map];omega)
   rw [List.length_cons,Qca,a]
   simp only [Option.bind_some]
   rw [ih,List.flatMap_cons,List.append_assoc]
theorem rin3 {q:List Int × List (Int × Int)} {k:Nat} {out:List T_Case} {y:T_Case} (hy:out[k]? =some y):∀ (zs:List (Int × (Int × Int))) (ys:List Int) (d:List T_Case) (j:Nat),ys=zs.map Prod.fst→q.2.drop j=zs.map Prod.snd→d.length+zs.length≤1000000→Qbz out q k ys d j=some (d ++ zs.map fun z=>setC 3 y z.1 z.2)
 | [],ys,d,j,h1,h2,h3=>by
   subst h1
   rw [List.map_nil,List.map_nil,Qbz,List.append_nil]
 | z :: zs,ys,d,j,h1,h2,h3=>by
   subst h1
   obtain ⟨e1,e2⟩:=Qdh h2
   rw [List.length_cons] at h3
   have ih:=rin3 hy zs (zs.map Prod.fst) (d ++ [setC 3 y z.1 z.2]) (j+1) rfl e2 (by simp only [List.length_append,List.length_singleton];omega)
   have hat:atI out (k:Int)=some y:=by rw [atI_nat,hy]
   rw [List.map_cons,Qbz]
   show Option.bind (atI out (k:Int)) _=_
   rw [hat,e1]
   simp only [Option.bind_some]
   rw [ckT (decide_eq_true (by omega))]
   show Qbz out q k _ (d ++ [setC 3 y z.1 z.2]) (j+1)=_
   rw [ih,List.map_cons,List.append_assoc];rfl
theorem rout3 {q:List Int × List (Int × Int)} {out:List T_Case} {zs:List (Int × (Int × Int))} (h1:q.1=zs.map Prod.fst) (h2:q.2=zs.map Prod.snd):∀ (ys d:List T_Case) (k:Nat),out.drop k=ys→d.length+ys.length * zs.length≤1000000→Qcd out q ys.length d k=some (d ++ ys.flatMap fun y=>zs.map fun z=>setC 3 y z.1 z.2)
 | [],d,k,_,_=>by rw [List.length_nil,Qcd,List.flatMap_nil,List.append_nil]
 | y :: ys,d,k,h,h3=>by
   obtain ⟨hy,hs⟩:=Qfr h
   rw [List.length_cons,Nat.add_mul,Nat.one_mul] at h3
   have a:=rin3 (q:=q) (k:=k) hy zs q.1 d 0 h1 (by rw [List.drop_zero];exact h2) (by omega)
   have ih:=rout3 (q:=q) h1 h2 ys (d ++ zs.map fun z=>setC 3 y z.1 z.2) (k+1) hs (by rw [List.length_append,List.length_map];omega)
   rw [List.length_cons,Qcd,a]
   simp only [Option.bind_some]
   rw [ih,List.flatMap_cons,List.append_assoc]
theorem rin4 {q:List Int × List (Int × Int)} {k:Nat} {out:List T_Case} {y:T_Case} (hy:out[k]? =some y):∀ (zs:List (Int × (Int × Int))) (ys:List Int) (d:List T_Case) (j:Nat),ys=zs.map Prod.fst→q.2.drop j=zs.map Prod.snd→d.length+zs.length≤1000000→Qbt out q k ys d j=some (d ++ zs.map fun z=>setC 4 y z.1 z.2)
 | [],ys,d,j,h1,h2,h3=>by
   subst h1
   rw [List.map_nil,List.map_nil,Qbt,List.append_nil]
 | z :: zs,ys,d,j,h1,h2,h3=>by
   subst h1
   obtain ⟨e1,e2⟩:=Qdh h2
   rw [List.length_cons] at h3
   have ih:=rin4 hy zs (zs.map Prod.fst) (d ++ [setC 4 y z.1 z.2]) (j+1) rfl e2 (by simp only [List.length_append,List.length_singleton];omega)
   have hat:atI out (k:Int)=some y:=by rw [atI_nat,hy]
   rw [List.map_cons,Qbt]
   show Option.bind (atI out (k:Int)) _=_
   rw [hat,e1]
   simp only [Option.bind_some]
   rw [ckT (decide_eq_true (by omega))]
   show Qbt out q k _ (d ++ [setC 4 y z.1 z.2]) (j+1)=_
   rw [ih,List.map_cons,List.append_assoc];rfl
theorem rout4 {q:List Int × List (Int × Int)} {out:List T_Case} {zs:List (Int × (Int × Int))} (h1:q.1=zs.map Prod.fst) (h2:q.2=zs.map Prod.snd):∀ (ys d:List T_Case) (k:Nat),out.drop k=ys→d.length+ys.length * zs.length≤1000000→Qc out q ys.length d k=some (d ++ ys.flatMap fun y=>zs.map fun z=>setC 4 y z.1 z.2)
 | [],d,k,_,_=>by rw [List.length_nil,Qc,List.flatMap_nil,List.append_nil]
 | y :: ys,d,k,h,h3=>by
   obtain ⟨hy,hs⟩:=Qfr h
   rw [List.length_cons,Nat.add_mul,Nat.one_mul] at h3
   have a:=rin4 (q:=q) (k:=k) hy zs q.1 d 0 h1 (by rw [List.drop_zero];exact h2) (by omega)
   have ih:=rout4 (q:=q) h1 h2 ys (d ++ zs.map fun z=>setC 4 y z.1 z.2) (k+1) hs (by rw [List.length_append,List.length_map];omega)
   rw [List.length_cons,Qc,a]
   simp only [Option.bind_some]
   rw [ih,List.flatMap_cons,List.append_assoc]
theorem lit5 {a b c d e:Int × Int} (h:∀ x∈[a,b,c,d,e],0≤x.1∧x.1≤x.2):∀ i,0≤(arr [a,b,c,d,e] a i).1∧(arr [a,b,c,d,e] a i).1≤(arr [a,b,c,d,e] a i).2:=by
 intro i
 match i with
 | 0=>exact h a (by simp)
 | 1=>exact h b (by simp)
 | 2=>exact h c (by simp)
 | 3=>exact h d (by simp)
 | 4=>exact h e (by simp)
 | n+5=>exact h a (by simp)
theorem rend_eq {v:Version} {f:Int} (hf:f=0∨f=1) (hl:∀ k,k < 10→lineB (v.ln k)=true) {y:T_Case} (hy:∀ i,0≤(y.Litres i).1∧(y.Litres i).1≤(y.Litres i).2):∃ a b,Qer v f y.Litres false=some a∧Qer v f y.Litres true=some b∧T_Case.mk y.Pieces y.Litres (a.Tonnage,b.Tonnage)=tndC v f y:=by
 obtain ⟨a,a1,_,a3⟩:=end_eq hf hl hy false
 obtain ⟨b,b1,_,b3⟩:=end_eq hf hl hy true
 refine ⟨a,b,a1,b1,?_⟩
 rw [a3,b3];rfl
theorem rton {v:Version} {f:Int} (hf:f=0∨f=1) (hl:∀ k,k < 10→lineB (v.ln k)=true) (M:List T_Case) (hM:∀ y∈M,∀ i,0≤(y.Litres i).1∧(y.Litres i).1≤(y.Litres i).2):∀ (n k:Nat),k+n=M.length→∀ m,n < m→Qbv v f m k ((M.take k).map (tndC v f) ++ M.drop k)=some (M.map (tndC v f))
 | 0,k,hk,m,hm=>by
   obtain ⟨m,rfl⟩:∃ q,m=q+1:=⟨m - 1,by omega⟩
   have e1:M.take k=M:=List.take_of_length_le (by omega)
   have e2:M.drop k=[]:=List.drop_eq_nil_of_le (by omega)
   rw [Qbv,e1,e2,List.append_nil,decide_eq_false (by rw [List.length_map];omega)];rfl
 | n+1,k,hk,m,hm=>by
   obtain ⟨m,rfl⟩:∃ q,m=q+1:=⟨m - 1,by omega⟩
   have hkl:k < M.length:=by omega
   have hy:=List.getElem?_eq_getElem hkl
   have hmem:=List.getElem_mem hkl
   generalize M[k]=y at hy hmem
   have hd:M.drop k=y :: M.drop (k+1):=dc hy
   have hlen:((M.take k).map (tndC v f)).length=k:=by rw [List.length_map,List.length_take];omega
   have hat:atI ((M.take k).map (tndC v f) ++ M.drop k) (k:Int)=some y:=by
    rw [atI_nat,List.getElem?_append_right (by omega),hlen,Nat.sub_self,hd];rfl
   obtain ⟨a,b,e1,e2,e3⟩:=rend_eq hf hl (hM y hmem)
   have ih:=rton hf hl M hM n (k+1) (by omega) m (by omega)
   have hset:List.set ((M.take k).map (tndC v f) ++ M.drop k) k (tndC v f y)=(M.take (k+1)).map (tndC v f) ++ M.drop (k+1):=by
    rw [List.set_append_right _ _ (by omega),hlen,Nat.sub_self,hd,List.set_cons_zero,take_s hy,List.map_append,List.append_assoc];rfl
   rw [Qbv,hat,decide_eq_true (by rw [List.length_append,hlen,hd,List.length_cons];omega)]
   simp only [cond_true,Option.bind_some,e1,e2,e3,hset]
   exact ih
theorem cellP_in {l:List Piece} {r:Int × Int} {z:Int × (Int × Int)} (h:z∈cellP l r) (h0:0≤r.1):0≤z.2.1∧z.2.1≤z.2.2:=by
 unfold cellP at h
 obtain ⟨i,h1,rfl⟩:=List.mem_map.1 h
 unfold cellN at h1
 have h2:=(List.mem_filter.1 h1).2
 unfold cellB at h2
 have h2:=of_decide_eq_true h2
 refine ⟨?_,h2⟩
 unfold cellA
 dsimp only
 split <;> omega
theorem R5_lit {v:Version} {f:Int} {Lt:Nat→Int × Int} (hL:∀ g,g < 5→0≤(Lt g).1):∀ y∈R5 v f Lt,∀ i,0≤(y.Litres i).1∧(y.Litres i).1≤(y.Litres i).2:=by
 intro y hy
 unfold R5 stepR at hy
 simp only [List.mem_flatMap,List.mem_map,List.mem_singleton] at hy
 obtain ⟨x3,⟨x2,⟨x1,⟨x,⟨w,rfl,z0,h0,rfl⟩,z1,h1,rfl⟩,z2,h2,rfl⟩,z3,h3,rfl⟩,z4,h4,rfl⟩:=hy
 have a0:=cellP_in h0 (hL 0 (by decide))
 have a1:=cellP_in h1 (hL 1 (by decide))
 have a2:=cellP_in h2 (hL 2 (by decide))
 have a3:=cellP_in h3 (hL 3 (by decide))
 have a4:=cellP_in h4 (hL 4 (by decide))
 refine lit5 (a:=z0.2) (b:=z1.2) (c:=z2.2) (d:=z3.2) (e:=z4.2) fun x hx=>?_
 simp only [List.mem_cons,List.not_mem_nil,or_false] at hx
 rcases hx with rfl | rfl | rfl | rfl | rfl <;> assumption
theorem rcs_eq {v:Version} {f:Int} (hf:f=0∨f=1) (hl:∀ k,k < 10→lineB (v.ln k)=true) {L Lt:Nat→Int × Int} (hLt:∀ g,g < 5→L g=Lt g) (hL:∀ g,g < 5→0≤(Lt g).1∧(Lt g).1≤(Lt g).2):Qfb v f L=some (if 512 < cntC v f Lt 5 then ([],false) else (csG v f Lt 5 x0C,true)):=by
 have hk:f.toNat < 2:=by rcases hf with rfl | rfl <;> decide
 have hlg:=fun g (hg:g < 5)=>hl (5 * f.toNat+g) (by omega)
 have hb:(decide ((0:Int)≤f) && decide (f < (2:Int)))=true:=by rcases hf with rfl | rfl <;> rfl
 obtain ⟨A0,A1,A2,A3,A4⟩:=arrL (v:=v) hf
 have me:=fun g (hg:g < 5)=>meets_eq (hlg g hg) (hL g hg).2
 have po:=fun g (hg:g < 5)=>cellP_pos (hlg g hg) (hL g hg).1 (hL g hg).2
 have le:=fun g (hg:g < 5)=>cellP_len (hlg g hg) (Lt g)
 have c0:([x0C]:List T_Case).length=cntC v f Lt 0:=rfl
 have c1:(stepR v f Lt 0 [x0C]).length=cntC v f Lt 1:=by rw [stepR_len,c0];rfl
 have c2:(stepR v f Lt 1 (stepR v f Lt 0 [x0C])).length=cntC v f Lt 2:=by rw [stepR_len,c1];rfl
 have c3:(stepR v f Lt 2 (stepR v f Lt 1 (stepR v f Lt 0 [x0C]))).length=cntC v f Lt 3:=by rw [stepR_len,c2];rfl
 have c4:(stepR v f Lt 3 (stepR v f Lt 2 (stepR v f Lt 1 (stepR v f Lt 0 [x0C])))).length=cntC v f Lt 4:=by rw [stepR_len,c3];rfl
 have c5:(stepR v f Lt 4 (stepR v f Lt 3 (stepR v f Lt 2 (stepR v f Lt 1 (stepR v f Lt 0 [x0C]))))).length=cntC v f Lt 5:=by rw [stepR_len,c4];rfl
 obtain ⟨e1,b1⟩:=Qft (v:=v) (f:=f) (Lt:=Lt) (n:=0) (m:=1) (hlg 0 (by decide)) (Int.le_refl 1) (by omega)
 obtain ⟨e2,b2⟩:=Qft (v:=v) (f:=f) (Lt:=Lt) (n:=1) (hlg 1 (by decide)) b1 (by omega)
 obtain ⟨e3,b3⟩:=Qft (v:=v) (f:=f) (Lt:=Lt) (n:=2) (hlg 2 (by decide)) b2 (by omega)
 obtain ⟨e4,b4⟩:=Qft (v:=v) (f:=f) (Lt:=Lt) (n:=3) (hlg 3 (by decide)) b3 (by omega)
 obtain ⟨e5,b5⟩:=Qft (v:=v) (f:=f) (Lt:=Lt) (n:=4) (hlg 4 (by decide)) b4 (by omega)
 replace b1:((cntC v f Lt 1:Nat):Int)≤8:=b1
 replace b2:((cntC v f Lt 2:Nat):Int)≤64:=b2
 replace b3:((cntC v f Lt 3:Nat):Int)≤512:=b3
 replace b4:((cntC v f Lt 4:Nat):Int)≤4096:=b4
 replace b5:((cntC v f Lt 5:Nat):Int)≤32768:=b5
 have up:∀ n,n < 5→cntC v f Lt n≤cntC v f Lt (n+1):=fun n hn=>Nat.le_mul_of_pos_right _ (po n hn)
 have u1:cntC v f Lt 1≤cntC v f Lt 2:=up 1 (by decide)
 have u2:cntC v f Lt 2≤cntC v f Lt 3:=up 2 (by decide)
 have u3:cntC v f Lt 3≤cntC v f Lt 4:=up 3 (by decide)
 have u4:cntC v f Lt 4≤cntC v f Lt 5:=up 4 (by decide)
 unfold Qfb
 rw [hb,A0,A1,A2,A3,A4,hLt 0 (by decide),hLt 1 (by decide),hLt 2 (by decide),hLt 3 (by decide),hLt 4 (by decide),me 0 (by decide),me 1 (by decide),me 2 (by decide),me 3 (by decide),me 4 (by decide)]
 simp only [ck,cond_true,Option.bind_some,List.length_map]
 have w0:wr ((([x0C]:List T_Case).length:Int) * ((cellP (v.ln (5 * f.toNat+0)) (Lt 0)).length:Int))=((cntC v f Lt 1:Nat):Int):=by rw [c0];exact e1
 have r0:Qbr ((cellP (v.ln (5 * f.toNat+0)) (Lt 0)).map Prod.fst,(cellP (v.ln (5 * f.toNat+0)) (Lt 0)).map Prod.snd) (((([x0C]:List T_Case).length:Int) - (0:Int)).toNat) [] 0=some (stepR v f Lt 0 [x0C]):=by
  have h:=rout0 (q:=((cellP (v.ln (5 * f.toNat+0)) (Lt 0)).map Prod.fst,(cellP (v.ln (5 * f.toNat+0)) (Lt 0)).map Prod.snd)) rfl rfl [x0C] [] 0 rfl (by rw [c0];have e:cntC v f Lt 0 * (cellP (v.ln (5 * f.toNat+0)) (Lt 0)).length=cntC v f Lt 1:=rfl;rw [List.length_nil,e];omega)
  have e:(((([x0C]:List T_Case).length:Int) - (0:Int)).toNat)=([x0C]:List T_Case).length:=by omega
  rw [e,h];rfl
 show cond (decide ((512:Int) < wr ((([x0C]:List T_Case).length:Int) * ((cellP (v.ln (5 * f.toNat+0)) (Lt 0)).length:Int)))) _ (Option.bind (Qbr _ (((([x0C]:List T_Case).length:Int) - (0:Int)).toNat) [] 0) _)=_
 rw [w0]
 by_cases n0:512 < cntC v f Lt 1
 ·rw [decide_eq_true (p:=(512:Int) < ((cntC v f Lt 1:Nat):Int)) (by omega),if_pos (by omega)];rfl
 rw [decide_eq_false (p:=(512:Int) < ((cntC v f Lt 1:Nat):Int)) (by omega),cond_false,r0]
 simp only [Option.bind_some]
 have w1:wr ((((stepR v f Lt 0 [x0C]):List T_Case).length:Int) * ((cellP (v.ln (5 * f.toNat+1)) (Lt 1)).length:Int))=((cntC v f Lt 2:Nat):Int):=by rw [c1];exact e2
 have r1:Qby (stepR v f Lt 0 [x0C]) ((cellP (v.ln (5 * f.toNat+1)) (Lt 1)).map Prod.fst,(cellP (v.ln (5 * f.toNat+1)) (Lt 1)).map Prod.snd) (((((stepR v f Lt 0 [x0C]):List T_Case).length:Int) - (0:Int)).toNat) [] 0=some (stepR v f Lt 1 (stepR v f Lt 0 [x0C])):=by
  have h:=rout1 (q:=((cellP (v.ln (5 * f.toNat+1)) (Lt 1)).map Prod.fst,(cellP (v.ln (5 * f.toNat+1)) (Lt 1)).map Prod.snd)) (out:=stepR v f Lt 0 [x0C]) rfl rfl (stepR v f Lt 0 [x0C]) [] 0 rfl (by rw [c1];have e:cntC v f Lt 1 * (cellP (v.ln (5 * f.toNat+1)) (Lt 1)).length=cntC v f Lt 2:=rfl;rw [List.length_nil,e];omega)
  have e:(((((stepR v f Lt 0 [x0C]):List T_Case).length:Int) - (0:Int)).toNat)=((stepR v f Lt 0 [x0C]):List T_Case).length:=by omega
  rw [e,h];rfl
 rw [w1]
 by_cases n1:512 < cntC v f Lt 2
 ·rw [decide_eq_true (p:=(512:Int) < ((cntC v f Lt 2:Nat):Int)) (by omega),if_pos (by omega)];rfl
 rw [decide_eq_false (p:=(512:Int) < ((cntC v f Lt 2:Nat):Int)) (by omega),cond_false,r1]
 simp only [Option.bind_some]
 have w2:wr ((((stepR v f Lt 1 (stepR v f Lt 0 [x0C])):List T_Case).length:Int) * ((cellP (v.ln (5 * f.toNat+2)) (Lt 2)).length:Int))=((cntC v f Lt 3:Nat):Int):=by rw [c2];exact e3
 have r2:Qca (stepR v f Lt 1 (stepR v f Lt 0 [x0C])) ((cellP (v.ln (5 * f.toNat+2)) (Lt 2)).map Prod.fst,(cellP (v.ln (5 * f.toNat+2)) (Lt 2)).map Prod.snd) (((((stepR v f Lt 1 (stepR v f Lt 0 [x0C])):List T_Case).length:Int) - (0:Int)).toNat) [] 0=some (stepR v f Lt 2 (stepR v f Lt 1 (stepR v f Lt 0 [x0C]))):=by
  have h:=rout2 (q:=((cellP (v.ln (5 * f.toNat+2)) (Lt 2)).map Prod.fst,(cellP (v.ln (5 * f.toNat+2)) (Lt 2)).map Prod.snd)) (out:=stepR v f Lt 1 (stepR v f Lt 0 [x0C])) rfl rfl (stepR v f Lt 1 (stepR v f Lt 0 [x0C])) [] 0 rfl (by rw [c2];have e:cntC v f Lt 2 * (cellP (v.ln (5 * f.toNat+2)) (Lt 2)).length=cntC v f Lt 3:=rfl;rw [List.length_nil,e];omega)
  have e:(((((stepR v f Lt 1 (stepR v f Lt 0 [x0C])):List T_Case).length:Int) - (0:Int)).toNat)=((stepR v f Lt 1 (stepR v f Lt 0 [x0C])):List T_Case).length:=by omega
  rw [e,h];rfl
 rw [w2]
 by_cases n2:512 < cntC v f Lt 3
 ·rw [decide_eq_true (p:=(512:Int) < ((cntC v f Lt 3:Nat):Int)) (by omega),if_pos (by omega)];rfl
 rw [decide_eq_false (p:=(512:Int) < ((cntC v f Lt 3:Nat):Int)) (by omega),cond_false,r2]
 simp only [Option.bind_some]
 have w3:wr ((((stepR v f Lt 2 (stepR v f Lt 1 (stepR v f Lt 0 [x0C]))):List T_Case).length:Int) * ((cellP (v.ln (5 * f.toNat+3)) (Lt 3)).length:Int))=((cntC v f Lt 4:Nat):Int):=by rw [c3];exact e4
 have r3:Qcd (stepR v f Lt 2 (stepR v f Lt 1 (stepR v f Lt 0 [x0C]))) ((cellP (v.ln (5 * f.toNat+3)) (Lt 3)).map Prod.fst,(cellP (v.ln (5 * f.toNat+3)) (Lt 3)).map Prod.snd) (((((stepR v f Lt 2 (stepR v f Lt 1 (stepR v f Lt 0 [x0C]))):List T_Case).length:Int) - (0:Int)).toNat) [] 0=some (stepR v f Lt 3 (stepR v f Lt 2 (stepR v f Lt 1 (stepR v f Lt 0 [x0C])))):=by
  have h:=rout3 (q:=((cellP (v.ln (5 * f.toNat+3)) (Lt 3)).map Prod.fst,(cellP (v.ln (5 * f.toNat+3)) (Lt 3)).map Prod.snd)) (out:=stepR v f Lt 2 (stepR v f Lt 1 (stepR v f Lt 0 [x0C]))) rfl rfl (stepR v f Lt 2 (stepR v f Lt 1 (stepR v f Lt 0 [x0C]))) [] 0 rfl (by rw [c3];have e:cntC v f Lt 3 * (cellP (v.ln (5 * f.toNat+3)) (Lt 3)).length=cntC v f Lt 4:=rfl;rw [List.length_nil,e];omega)
  have e:(((((stepR v f Lt 2 (stepR v f Lt 1 (stepR v f Lt 0 [x0C]))):List T_Case).length:Int) - (0:Int)).toNat)=((stepR v f Lt 2 (stepR v f Lt 1 (stepR v f Lt 0 [x0C]))):List T_Case).length:=by omega
  rw [e,h];rfl
 rw [w3]
 by_cases n3:512 < cntC v f Lt 4
 ·rw [decide_eq_true (p:=(512:Int) < ((cntC v f Lt 4:Nat):Int)) (by omega),if_pos (by omega)];rfl
 rw [decide_eq_false (p:=(512:Int) < ((cntC v f Lt 4:Nat):Int)) (by omega),cond_false,r3]
 simp only [Option.bind_some]
 have w4:wr ((((stepR v f Lt 3 (stepR v f Lt 2 (stepR v f Lt 1 (stepR v f Lt 0 [x0C])))):List T_Case).length:Int) * ((cellP (v.ln (5 * f.toNat+4)) (Lt 4)).length:Int))=((cntC v f Lt 5:Nat):Int):=by rw [c4];exact e5
 have r4:Qc (stepR v f Lt 3 (stepR v f Lt 2 (stepR v f Lt 1 (stepR v f Lt 0 [x0C])))) ((cellP (v.ln (5 * f.toNat+4)) (Lt 4)).map Prod.fst,(cellP (v.ln (5 * f.toNat+4)) (Lt 4)).map Prod.snd) (((((stepR v f Lt 3 (stepR v f Lt 2 (stepR v f Lt 1 (stepR v f Lt 0 [x0C])))):List T_Case).length:Int) - (0:Int)).toNat) [] 0=some (stepR v f Lt 4 (stepR v f Lt 3 (stepR v f Lt 2 (stepR v f Lt 1 (stepR v f Lt 0 [x0C]))))):=by
  have h:=rout4 (q:=((cellP (v.ln (5 * f.toNat+4)) (Lt 4)).map Prod.fst,(cellP (v.ln (5 * f.toNat+4)) (Lt 4)).map Prod.snd)) (out:=stepR v f Lt 3 (stepR v f Lt 2 (stepR v f Lt 1 (stepR v f Lt 0 [x0C])))) rfl rfl (stepR v f Lt 3 (stepR v f Lt 2 (stepR v f Lt 1 (stepR v f Lt 0 [x0C])))) [] 0 rfl (by rw [c4];have e:cntC v f Lt 4 * (cellP (v.ln (5 * f.toNat+4)) (Lt 4)).length=cntC v f Lt 5:=rfl;rw [List.length_nil,e];omega)
  have e:(((((stepR v f Lt 3 (stepR v f Lt 2 (stepR v f Lt 1 (stepR v f Lt 0 [x0C])))):List T_Case).length:Int) - (0:Int)).toNat)=((stepR v f Lt 3 (stepR v f Lt 2 (stepR v f Lt 1 (stepR v f Lt 0 [x0C])))):List T_Case).length:=by omega
  rw [e,h];rfl
 rw [w4]
 by_cases n4:512 < cntC v f Lt 5
 ·rw [decide_eq_true (p:=(512:Int) < ((cntC v f Lt 5:Nat):Int)) (by omega),if_pos (by omega)];rfl
 rw [decide_eq_false (p:=(512:Int) < ((cntC v f Lt 5:Nat):Int)) (by omega),cond_false,r4]
 simp only [Option.bind_some]
 have ht:=rton hf hl (R5 v f Lt) (R5_lit fun g hg=>(hL g hg).1) (R5 v f Lt).length 0 (by omega) ((R5 v f Lt).length+1) (by omega)
 rw [List.take_zero,List.map_nil,List.nil_append,List.drop_zero] at ht
 show Option.bind (Qbv v f ((R5 v f Lt).length+1) 0 (R5 v f Lt)) _=_
 rw [ht,if_neg n4,csG_R5];rfl
theorem rCases_eq (c:Code) (day f:Int) (l:List Room):Qei c day f l=Qda c day f l:=by
 rw [cCases_eq]
 unfold Qei
 by_cases h:endE c day f l=0
 ·have hz:=Qgf h
  have hL:∀ g,g < 5→0≤(litT (verF c day) l g).1∧(litT (verF c day) l g).1≤(litT (verF c day) l g).2:=fun g _=>⟨(lit_in (endE_rooms h)).1,(lit_in (endE_rooms h)).2.1⟩
  rw [if_pos h,decide_eq_true h,askI_eq h,endE_ver h]
  simp only [Bool.not_true,cond_false,Option.bind_some,plan_eq h,litres_eq]
  rw [rcs_eq hz.f01 hz.lines (L:=litA (verF c day) l) (Lt:=litT (verF c day) l) (fun g hg=>match g,hg with | 0,_=>rfl | 1,_=>rfl | 2,_=>rfl | 3,_=>rfl | 4,_=>rfl) hL]
  unfold casE
  by_cases hn:512 < cntC (verF c day) f (litT (verF c day) l) 5
  ·rw [if_pos hn,if_pos hn];rfl
  ·rw [if_neg hn,if_neg hn];rfl
 ·rw [if_neg h,decide_eq_false h];rfl
theorem same_l1_eq (b:List T_Case):∀ (ys:List T_Case) (k:Nat),Qaz b ys k=Qad b ys k
 | [],k=>rfl
 | y :: ys,k=>by rw [Qaz,Qad];simp only [same_l1_eq b ys (k+1)]
theorem same_eqC (a b:List T_Case):Qcf a b=Qah a b:=by
 unfold Qcf Qah
 rw [same_l1_eq]
 generalize Qad b a 0=o
 cases o with
 | none=>rfl
 | some o=>cases o <;> rfl
theorem same_some (a b:List T_Case):∃ r,Qah a b=some r:=by
 unfold Qah
 by_cases h:a.length=b.length
 ·rw [decide_eq_true (p:=(a.length:Int)=(b.length:Int)) (by omega)]
  have key:∀ (ys:List T_Case) (k:Nat),k+ys.length=b.length→∃ r,Qad b ys k=some r:=by
   intro ys
   induction ys with
   | nil=>intro k _;exact ⟨_,rfl⟩
   | cons y ys ih=>
     intro k hk
     rw [List.length_cons] at hk
     rw [Qad,List.getElem?_eq_getElem (by omega)]
     simp only [Option.bind_some]
     generalize (!_:Bool)=t
     cases t with
     | true=>exact ⟨_,rfl⟩
     | false=>exact ih (k+1) (by omega)
  obtain ⟨r,hr⟩:=key a 0 (by omega)
  rw [Bool.not_true,cond_false,hr]
  cases r <;> exact ⟨_,rfl⟩
 ·exact ⟨false,by rw [decide_eq_false (p:=(a.length:Int)=(b.length:Int)) (by omega)];rfl⟩
theorem ends_eq:∀ (ys:List T_Case) (k:Nat) (a b:Int),Qbm ys k a b=Qam ys k a b
 | [],_,_,_=>rfl
 | y :: ys,k,a,b=>by rw [Qbm,Qam,ends_eq ys]
theorem ends_some:∀ (ys:List T_Case) (k:Nat) (a b:Int),∃ r,Qam ys k a b=some r
 | [],_,_,_=>⟨_,rfl⟩
 | y :: ys,k,a,b=>by rw [Qam];exact ends_some ys _ _ _
theorem rCheck_eq (c:Code) (day f:Int) (l:List Room) (w:List T_Case):∃ r,Qcr c day f l w=some r∧Qcv c day f l w=some r:=by
 unfold Qcr Qcv
 rw [rCases_eq,cCases_eq]
 simp only [Option.bind_some]
 generalize hx:(if endE c day f l=0 then casE (verF c day) f l else ([],endE c day f l))=x
 by_cases h0:x.2=0
 ·rw [decide_eq_true h0]
  simp only [Bool.not_true,cond_false,same_eqC]
  obtain ⟨r,hr⟩:=same_some x.1 w
  rw [hr]
  simp only [Option.bind_some]
  cases r with
  | false=>exact ⟨_,rfl,rfl⟩
  | true=>
    simp only [Bool.not_true,cond_false]
    have hne:x.1≠[]:=by
      intro hn
      rw [←hx] at h0 hn
      by_cases he:endE c day f l=0
      ·rw [if_pos he] at h0 hn
       unfold casE at h0 hn
       by_cases hc:512 < cntC (verF c day) f (litT (verF c day) l) 5
       ·rw [if_pos hc] at h0;cases h0
       ·rw [if_neg hc] at hn
        have hz:=Qgf he
        have hk:f.toNat < 2:=by rcases hz.f01 with rfl | rfl <;> decide
        have hlen:=csG_len5 (verF c day) f (litT (verF c day) l) x0C
        have hn':(csG (verF c day) f (litT (verF c day) l) 5 x0C)=[]:=hn
        rw [hn',List.length_nil] at hlen
        have po:∀ g,g < 5→0 < (cellP ((verF c day).ln (5 * f.toNat+g)) (litT (verF c day) l g)).length:=fun g hg=>cellP_pos (hz.lines (5 * f.toNat+g) (by omega)) (lit_in (endE_rooms he)).1 (lit_in (endE_rooms he)).2.1
        have cp:∀ n,n≤5→0 < cntC (verF c day) f (litT (verF c day) l) n:=by
         intro n
         induction n with
         | zero=>intro _;exact Nat.one_pos
         | succ n ih=>intro hn;exact Nat.mul_pos (ih (by omega)) (po n (by omega))
        have:=cp 5 (Nat.le_refl _)
        omega
      ·rw [if_neg he] at h0;exact he h0
    cases hx1:x.1 with
    | nil=>exact absurd hx1 hne
    | cons y ys=>
      rw [List.getElem?_cons_zero]
      simp only [Option.bind_some,List.drop_succ_cons,List.drop_zero]
      rw [Qam,Int.min_self,Int.max_self,ends_eq]
      obtain ⟨r,hr⟩:=ends_some ys 1 y.Tonnages.1 y.Tonnages.2
      rw [hr]
      exact ⟨_,rfl,rfl⟩
 ·rw [decide_eq_false h0]
  exact ⟨_,rfl,rfl⟩
theorem rop_l1 (L:Nat→Int × Int):∀ (l:List Piece) (d:List T_Open) (k:Nat),0 < k→d.length+l.length≤1000→Qbq L l d k=some (d ++ opE 1 (L 0) l k)
 | [],d,k,_,_=>by rw [Qbq,opE,List.append_nil]
 | y :: l,d,k,hk,h=>by
   rw [List.length_cons] at h
   have i1:=rop_l1 L l d (k+1) (by omega) (by omega)
   have i2:=rop_l1 L l (d ++ [T_Open.mk 1 (k:Int) y.fr]) (k+1) (by omega) (by rw [List.length_append,List.length_singleton];omega)
   rw [Qbq,opE,i1,i2,ckT (decide_eq_true (by omega))]
   have h1:(0:Int) < (k:Int):=by omega
   by_cases h2:(L 0).1 < y.fr
   ·by_cases h3:y.fr≤(L 0).2
    ·rw [decide_eq_true h2,decide_eq_true h3,if_pos ⟨h1,h2,h3⟩, ←List.append_assoc];rfl
    ·rw [decide_eq_true h2,decide_eq_false h3,if_neg fun k=>h3 k.2.2];rfl
   ·rw [decide_eq_false h2,if_neg fun k=>h2 k.2.1];rfl
theorem rop_l2 (L:Nat→Int × Int):∀ (l:List Piece) (d:List T_Open) (k:Nat),0 < k→d.length+l.length≤1000→Qbj L l d k=some (d ++ opE 2 (L 1) l k)
 | [],d,k,_,_=>by rw [Qbj,opE,List.append_nil]
 | y :: l,d,k,hk,h=>by
   rw [List.length_cons] at h
   have i1:=rop_l2 L l d (k+1) (by omega) (by omega)
   have i2:=rop_l2 L l (d ++ [T_Open.mk 2 (k:Int) y.fr]) (k+1) (by omega) (by rw [List.length_append,List.length_singleton];omega)
   rw [Qbj,opE,i1,i2,ckT (decide_eq_true (by omega))]
   have h1:(0:Int) < (k:Int):=by omega
   by_cases h2:(L 1).1 < y.fr
   ·by_cases h3:y.fr≤(L 1).2
    ·rw [decide_eq_true h2,decide_eq_true h3,if_pos ⟨h1,h2,h3⟩, ←List.append_assoc];rfl
    ·rw [decide_eq_true h2,decide_eq_false h3,if_neg fun k=>h3 k.2.2];rfl
   ·rw [decide_eq_false h2,if_neg fun k=>h2 k.2.1];rfl
theorem rop_l3 (L:Nat→Int × Int):∀ (l:List Piece) (d:List T_Open) (k:Nat),0 < k→d.length+l.length≤1000→Qbg L l d k=some (d ++ opE 3 (L 2) l k)
 | [],d,k,_,_=>by rw [Qbg,opE,List.append_nil]
 | y :: l,d,k,hk,h=>by
   rw [List.length_cons] at h
   have i1:=rop_l3 L l d (k+1) (by omega) (by omega)
   have i2:=rop_l3 L l (d ++ [T_Open.mk 3 (k:Int) y.fr]) (k+1) (by omega) (by rw [List.length_append,List.length_singleton];omega)
   rw [Qbg,opE,i1,i2,ckT (decide_eq_true (by omega))]
   have h1:(0:Int) < (k:Int):=by omega
   by_cases h2:(L 2).1 < y.fr
   ·by_cases h3:y.fr≤(L 2).2
    ·rw [decide_eq_true h2,decide_eq_true h3,if_pos ⟨h1,h2,h3⟩, ←List.append_assoc];rfl
    ·rw [decide_eq_true h2,decide_eq_false h3,if_neg fun k=>h3 k.2.2];rfl
   ·rw [decide_eq_false h2,if_neg fun k=>h2 k.2.1];rfl
theorem rop_l4 (L:Nat→Int × Int):∀ (l:List Piece) (d:List T_Open) (k:Nat),0 < k→d.length+l.length≤1000→Qbl L l d k=some (d ++ opE 4 (L 3) l k)
 | [],d,k,_,_=>by rw [Qbl,opE,List.append_nil]
 | y :: l,d,k,hk,h=>by
   rw [List.length_cons] at h
   have i1:=rop_l4 L l d (k+1) (by omega) (by omega)
   have i2:=rop_l4 L l (d ++ [T_Open.mk 4 (k:Int) y.fr]) (k+1) (by omega) (by rw [List.length_append,List.length_singleton];omega)
   rw [Qbl,opE,i1,i2,ckT (decide_eq_true (by omega))]
   have h1:(0:Int) < (k:Int):=by omega
   by_cases h2:(L 3).1 < y.fr
   ·by_cases h3:y.fr≤(L 3).2
    ·rw [decide_eq_true h2,decide_eq_true h3,if_pos ⟨h1,h2,h3⟩, ←List.append_assoc];rfl
    ·rw [decide_eq_true h2,decide_eq_false h3,if_neg fun k=>h3 k.2.2];rfl
   ·rw [decide_eq_false h2,if_neg fun k=>h2 k.2.1];rfl
theorem rop_l5 (L:Nat→Int × Int):∀ (l:List Piece) (d:List T_Open) (k:Nat),0 < k→d.length+l.length≤1000→Qbk L l d k=some (d ++ opE 5 (L 4) l k)
 | [],d,k,_,_=>by rw [Qbk,opE,List.append_nil]
 | y :: l,d,k,hk,h=>by
   rw [List.length_cons] at h
   have i1:=rop_l5 L l d (k+1) (by omega) (by omega)
   have i2:=rop_l5 L l (d ++ [T_Open.mk 5 (k:Int) y.fr]) (k+1) (by omega) (by rw [List.length_append,List.length_singleton];omega)
   rw [Qbk,opE,i1,i2,ckT (decide_eq_true (by omega))]
   have h1:(0:Int) < (k:Int):=by omega
   by_cases h2:(L 4).1 < y.fr
   ·by_cases h3:y.fr≤(L 4).2
    ·rw [decide_eq_true h2,decide_eq_true h3,if_pos ⟨h1,h2,h3⟩, ←List.append_assoc];rfl
    ·rw [decide_eq_true h2,decide_eq_false h3,if_neg fun k=>h3 k.2.2];rfl
   ·rw [decide_eq_false h2,if_neg fun k=>h2 k.2.1];rfl
theorem opE_drop (g:Int) (r:Int × Int) (l:List Piece):opE g r (l.drop 1) 1=opE g r l 0:=by
 cases l with
 | nil=>rfl
 | cons y l=>rw [opE,if_neg (fun k=>by simp at k),List.nil_append];rfl
theorem rOpens_eq (c:Code) (day f:Int) (l:List Room):Qf c day f l=Qds c day f l:=by
 rw [cOpens_eq]
 unfold Qf
 by_cases h:endE c day f l=0
 ·have hz:=Qgf h
  have hk:f.toNat < 2:=by rcases hz.f01 with rfl | rfl <;> decide
  have hl:=fun g (hg:g < 5)=>line_len (hz.lines (5 * f.toNat+g) (by omega))
  have l0:=hl 0 (by decide)
  have l1:=hl 1 (by decide)
  have l2:=hl 2 (by decide)
  have l3:=hl 3 (by decide)
  have l4:=hl 4 (by decide)
  have hb:(decide ((0:Int)≤f) && decide (f < (2:Int)))=true:=by rcases hz.f01 with rfl | rfl <;> rfl
  obtain ⟨A0,A1,A2,A3,A4⟩:=arrL (v:=verF c day) hz.f01
  have o0:=Qgl 1 (litT (verF c day) l 0) ((verF c day).ln (5 * f.toNat+0)) 0
  have o1:=Qgl 2 (litT (verF c day) l 1) ((verF c day).ln (5 * f.toNat+1)) 0
  have o2:=Qgl 3 (litT (verF c day) l 2) ((verF c day).ln (5 * f.toNat+2)) 0
  have o3:=Qgl 4 (litT (verF c day) l 3) ((verF c day).ln (5 * f.toNat+3)) 0
  rw [if_pos h,decide_eq_true h,askI_eq h,endE_ver h]
  simp only [Bool.not_true,cond_false,Option.bind_some,plan_eq h,litres_eq,hb,ck,cond_true,A0,A1,A2,A3,A4]
  rw [rop_l1 _ _ _ _ (by omega) (by simp only [List.length_nil,List.length_drop];omega)]
  simp only [Option.bind_some,List.nil_append,opE_drop]
  show Option.bind (Qbj _ _ (opE 1 (litT (verF c day) l 0) _ 0) 1) _=_
  rw [rop_l2 _ _ _ _ (by omega) (by simp only [List.length_drop];omega)]
  simp only [Option.bind_some,opE_drop]
  show Option.bind (Qbg _ _ (opE 1 (litT (verF c day) l 0) _ 0 ++ opE 2 (litT (verF c day) l 1) _ 0) 1) _=_
  rw [rop_l3 _ _ _ _ (by omega) (by simp only [List.length_append,List.length_drop];omega)]
  simp only [Option.bind_some,opE_drop]
  show Option.bind (Qbl _ _ (opE 1 (litT (verF c day) l 0) _ 0 ++ opE 2 (litT (verF c day) l 1) _ 0 ++ opE 3 (litT (verF c day) l 2) _ 0) 1) _=_
  rw [rop_l4 _ _ _ _ (by omega) (by simp only [List.length_append,List.length_drop];omega)]
  simp only [Option.bind_some,opE_drop]
  show Option.bind (Qbk _ _ (opE 1 (litT (verF c day) l 0) _ 0 ++ opE 2 (litT (verF c day) l 1) _ 0 ++ opE 3 (litT (verF c day) l 2) _ 0 ++ opE 4 (litT (verF c day) l 3) _ 0) 1) _=_
  rw [rop_l5 _ _ _ _ (by omega) (by simp only [List.length_append,List.length_drop];omega)]
  simp only [Option.bind_some,opE_drop]
  rfl
 ·rw [if_neg h,decide_eq_false h];rfl
theorem sameC_l1 (a:List T_Case):∀ (ys:List T_Case) (k:Nat),a.drop k=ys→Qaz a ys k=some (Sum.inr ())
 | [],k,_=>rfl
 | y :: ys,k,h=>by
   obtain ⟨h1,h2⟩:=Qfr h
   rw [Qaz,h1]
   simp only [Option.bind_some,decide_true,Bool.and_self,Bool.not_true,cond_false]
   exact sameC_l1 a ys (k+1) h2
theorem sameC_eq (a:List T_Case):Qcf a a=some true:=by
 unfold Qcf
 rw [decide_eq_true rfl,sameC_l1 a a 0 rfl];rfl
theorem sameO_l1 (a:List T_Open):∀ (ys:List T_Open) (k:Nat),a.drop k=ys→Qbu a ys k=some (Sum.inr ())
 | [],k,_=>rfl
 | y :: ys,k,h=>by
   obtain ⟨h1,h2⟩:=Qfr h
   rw [Qbu,h1]
   simp only [Option.bind_some,decide_true,Bool.and_self,Bool.not_true,cond_false]
   exact sameO_l1 a ys (k+1) h2
theorem sameO_eq (a:List T_Open):Qcz a a=some true:=by
 unfold Qcz
 rw [decide_eq_true rfl,sameO_l1 a a 0 rfl];rfl
theorem codeCases_true (c:Code) (q:T_Ask) (w:List T_Case):Qe c q w=some true:=by
 unfold Qe
 obtain ⟨r,h1,h2⟩:=rCheck_eq c q.Day q.Formula q.Rooms w
 rw [rCases_eq,rOpens_eq,h1,h2,cCases_eq,cOpens_eq]
 simp only [Option.bind_some,sameC_eq,sameO_eq,decide_true,Bool.and_self,cond_true]
end Go.Proofs.YtjflgemfeofciaaGreatDoor
