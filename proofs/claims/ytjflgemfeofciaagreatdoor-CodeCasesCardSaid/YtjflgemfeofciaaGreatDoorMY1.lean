import Derived.Test.YtjflgemfeofciaaGreatDoorMU3
namespace Go.Proofs.YtjflgemfeofciaaGreatDoor
open Go Go.Ev
set_option linter.unusedVariables false
set_option linter.unusedSimpArgs false
theorem wr_id {n:Int} (h: -9223372036854775808≤n∧n≤9223372036854775807):wr n=n:=by
 show IntKind.i64.wrap n=n
 rw [IntKind.wrap_i64];omega
theorem value_l1 (n:Int):∀ (l:List Piece) (out:Int) (k:Nat),Qco n l out k=some (rvF n l out)
 | [],out,k=>rfl
 | p :: l,out,k=>by
   rw [Qco,rvF]
   by_cases h:p.fr≤n
   ·rw [if_pos h,decide_eq_true h]
    exact value_l1 n l _ _
   ·rw [if_neg h,decide_eq_false h];rfl
theorem value_eq (l:List Piece) (n:Int):Qbf l n=some (refV l n):=by
 unfold Qbf
 rw [value_l1];rfl
theorem Down_eq (n:Int):Qfx n 1000=some (downI n):=by
 show cond (decide (Int.tmod n 1000 < 0)) _ _=_
 unfold downI
 by_cases h:Int.tmod n 1000 < 0
 ·rw [if_pos h,decide_eq_true h];rfl
 ·rw [if_neg h,decide_eq_false h];rfl
theorem tonnage_eq (v:Version) (f:Int) (x:Nat→Int) (hf:f=0∨f=1):Qdc v f x=some (downI (tonS refV v f.toNat (x 0) (x 1) (x 2) (x 3) (x 4))):=by
 unfold Qdc
 rcases hf with rfl | rfl
 ·simp only [value_eq,Option.bind_some,Down_eq];rfl
 ·simp only [value_eq,Option.bind_some,Down_eq];rfl
def plL (lo hi:Int):List Piece→Int→List Int
 | [],last=>if last < hi then [hi] else []
 | p :: r,last=>if lo < p.fr∧p.fr≤hi then (if last < p.fr - 1 then [p.fr - 1] else []) ++ p.fr :: plL lo hi r p.fr else plL lo hi r last
theorem atI_last {α:Type} (l:List α) (x:α):atI (l ++ [x]) (((l ++ [x]).length:Int) - 1)=some x:=by
 have:(((l ++ [x]).length:Int) - 1)=(l.length:Nat):=by simp
 rw [this,atI_nat]
 simp
theorem places_l1 (lo hi:Int):∀ (l:List Piece) (d:List Int) (last:Int) (k:Nat),(∀ p∈l,0≤p.fr∧p.fr≤20000000000)→d.length+1+2 * l.length+1≤1000000→
   ∃ d' last',Qba (lo,hi) l (d ++ [last]) k=some (d' ++ [last'])∧d' ++ [last'] ++ (if last' < hi then [hi] else [])=d ++ [last] ++ plL lo hi l last∧d'.length≤d.length+2 * l.length
 | [],d,last,k,h,hl=>⟨d,last,rfl,rfl,by omega⟩
 | p :: l,d,last,k,h,hl=>by
   have hp:=h p List.mem_cons_self
   have hr:=fun q hq=>h q (List.mem_cons_of_mem _ hq)
   have hw:wr (p.fr - 1)=p.fr - 1:=wr_id (by omega)
   rw [List.length_cons] at hl
   rw [Qba,plL,hw,atI_last]
   simp only [Option.bind_some]
   by_cases h1:lo < p.fr
   ·by_cases h2:p.fr≤hi
    ·rw [if_pos ⟨h1,h2⟩,decide_eq_true h1,decide_eq_true h2]
     simp only [cond_true]
     by_cases h3:last < p.fr - 1
     ·rw [if_pos h3,decide_eq_true h3]
      have e1:decide ((d ++ [last]).length+1≤1000000)=true:=decide_eq_true (by simp;omega)
      have e2:decide ((d ++ [last] ++ [p.fr - 1]).length+1≤1000000)=true:=decide_eq_true (by simp;omega)
      simp only [cond_true,ck,e1,e2]
      obtain ⟨d',last',a1,a2,a3⟩:=places_l1 lo hi l (d ++ [last] ++ [p.fr - 1]) p.fr (k+1) hr (by simp;omega)
      refine ⟨d',last',a1,?_,?_⟩
      ·rw [a2];simp
      ·simp at a3;rw [List.length_cons];omega
     ·rw [if_neg h3,decide_eq_false h3]
      have e1:decide ((d ++ [last]).length+1≤1000000)=true:=decide_eq_true (by simp;omega)
      simp only [cond_false,cond_true,ck,e1]
      obtain ⟨d',last',a1,a2,a3⟩:=places_l1 lo hi l (d ++ [last]) p.fr (k+1) hr (by simp;omega)
      refine ⟨d',last',a1,?_,?_⟩
      ·rw [a2];simp
      ·simp at a3;rw [List.length_cons];omega
    ·rw [if_neg (fun h=>h2 h.2),decide_eq_true h1,decide_eq_false h2]
     simp only [cond_true,cond_false]
     obtain ⟨d',last',a1,a2,a3⟩:=places_l1 lo hi l d last (k+1) hr (by omega)
     exact ⟨d',last',a1,a2,by rw [List.length_cons];omega⟩
   ·rw [if_neg (fun h=>h1 h.1),decide_eq_false h1]
    simp only [cond_false]
    obtain ⟨d',last',a1,a2,a3⟩:=places_l1 lo hi l d last (k+1) hr (by omega)
    exact ⟨d',last',a1,a2,by rw [List.length_cons];omega⟩
theorem places_eq {l:List Piece} {lo hi:Int} (h:lineB l=true):Qet l (lo,hi)=some (lo :: plL lo hi l lo):=by
 have hl:=line_len h
 unfold Qet
 obtain ⟨d,last,a1,a2,a3⟩:=places_l1 lo hi l [] lo 0 (fun p hp=>by
  obtain ⟨k,hk⟩:=List.getElem?_of_mem hp
  exact line_fr h hk) (by simp;omega)
 have a1:Qba (lo,hi) l [lo] 0=some (d ++ [last]):=a1
 rw [a1]
 simp only [Option.bind_some,atI_last]
 simp only [List.length_nil] at a3
 have a2:d ++ [last] ++ (if last < hi then [hi] else [])=lo :: plL lo hi l lo:=a2
 rw [←a2]
 by_cases h3:last < hi
 ·rw [if_pos h3,decide_eq_true h3]
  have e1:decide ((d ++ [last]).length+1≤1000000)=true:=decide_eq_true (by simp;omega)
  simp only [cond_true,ck,e1]
 ·rw [if_neg h3,decide_eq_false h3];simp
def clL (lo hi:Int):List Piece→List (Int × Int)
 | []=>[]
 | [p]=>if max lo p.fr≤hi then [(max lo p.fr,hi)] else []
 | p :: q :: r=>(if max lo p.fr≤min hi (q.fr - 1) then [(max lo p.fr,min hi (q.fr - 1))] else []) ++ clL lo hi (q :: r)
theorem clL_eq (l:List Piece) (lo hi:Int):∀ (n k:Nat),k+n=l.length→((List.range' k n).filter (cellB l lo hi)).map (cellA l lo hi)=clL lo hi (l.drop k)
 | 0,k,h=>by
   rw [List.drop_eq_nil_of_le (by omega)];rfl
 | n+1,k,h=>by
   obtain ⟨p,hp⟩:∃ p,l[k]? =some p:=⟨_,List.getElem?_eq_getElem (by omega)⟩
   have ih:=clL_eq l lo hi n (k+1) (by omega)
   rw [dc hp,List.range'_succ,List.filter_cons]
   have hA1:(cellA l lo hi k).1=max lo p.fr:=by
     unfold cellA;rw [if_pos (by omega),Qcx hp]
   cases n with
   | zero=>
     have hA2:(cellA l lo hi k).2=hi:=by unfold cellA;rw [if_neg (by omega: ¬ k+1 < l.length)]
     rw [List.drop_eq_nil_of_le (by omega)]
     unfold cellB
     rw [hA1,hA2,clL]
     by_cases hc:max lo p.fr≤hi
     ·rw [if_pos hc,if_pos (decide_eq_true hc)]
      show [cellA l lo hi k]=_
      rw [show cellA l lo hi k=(max lo p.fr,hi) from Prod.ext hA1 hA2]
     ·rw [if_neg hc,if_neg (by simpa using hc)];rfl
   | succ n=>
     obtain ⟨q,hq⟩:∃ q,l[k+1]? =some q:=⟨_,List.getElem?_eq_getElem (by omega)⟩
     have hA2:(cellA l lo hi k).2=min hi (q.fr - 1):=by unfold cellA;rw [if_pos (by omega:k+1 < l.length),Qcx hq]
     rw [dc hq] at ih ⊢
     rw [clL, ←ih]
     have hB:cellB l lo hi k=decide (max lo p.fr≤min hi (q.fr - 1)):=by unfold cellB;rw [hA1,hA2]
     by_cases hc:max lo p.fr≤min hi (q.fr - 1)
     ·rw [if_pos hc,if_pos (by rw [hB];exact decide_eq_true hc),List.map_cons]
      show cellA l lo hi k :: _=_
      rw [show cellA l lo hi k=(max lo p.fr,min hi (q.fr - 1)) from Prod.ext hA1 hA2];rfl
     ·rw [if_neg hc,if_neg (by rw [hB];simpa using hc)];rfl
theorem cellL_eq (p:Piece) (l:List Piece) (lo hi:Int):cellL (p :: l) lo hi=clL lo hi (p :: l):=by
 have:=clL_eq (p :: l) lo hi (p :: l).length 0 (by omega)
 rw [List.drop_zero] at this
 rw [←this]
 unfold cellL cellN nCell
 rw [Nat.max_eq_left (by simp),List.range_eq_range']
theorem exG_id (f:Int→Int) (a:Int × Int) (n:Int):exG f (exG f a n) n=exG f a n:=by
 have h1:∀ x:Int,(if f n < f (if f n < f x then n else x) then n else if f n < f x then n else x)=if f n < f x then n else x:=fun x=>by
  by_cases h:f n < f x
  ·rw [if_pos h,if_neg (by omega)]
  ·rw [if_neg h,if_neg h]
 have h2:∀ x:Int,(if f (if f x < f n then n else x) < f n then n else if f x < f n then n else x)=if f x < f n then n else x:=fun x=>by
  by_cases h:f x < f n
  ·rw [if_pos h,if_neg (by omega)]
  ·rw [if_neg h,if_neg h]
 unfold exG
 simp only [h1,h2]
def riseP:List Piece→Prop
 | []=>True
 | [_]=>True
 | p :: q :: r=>p.fr < q.fr∧riseP (q :: r)
theorem clL_none {lo hi:Int}:∀ {p:Piece} {r:List Piece},riseP (p :: r)→hi < p.fr→clL lo hi (p :: r)=[]
 | p,[],h,hp=>by
   rw [clL,if_neg (by omega)]
 | p,q :: r,h,hp=>by
   rw [clL,clL_none h.2 (by have:=h.1;omega),if_neg (by omega)];rfl
theorem plL_none {lo hi:Int}:∀ {r:List Piece} {p:Piece} {s:Int},riseP (p :: r)→hi < p.fr→plL lo hi r s=if s < hi then [hi] else []
 | [],p,s,h,hp=>rfl
 | q :: r,p,s,h,hp=>by
   have:=h.1
   rw [plL,if_neg (by omega)]
   exact plL_none h.2 (by omega)
theorem ends_places (f:Int→Int) {lo hi:Int} (hlh:lo≤hi):∀ (r:List Piece) (p:Piece) (st:Int × Int),riseP (p :: r)→p.fr≤hi→(clL lo hi (p :: r)).foldl (exS f) st=(plL lo hi r (max lo p.fr)).foldl (exG f) (exG f st (max lo p.fr))
 | [],p,st,h,hp=>by
   rw [clL,if_pos (by omega),plL]
   show exG f (exG f st (max lo p.fr)) hi=_
   by_cases e:max lo p.fr < hi
   ·rw [if_pos e];rfl
   ·rw [if_neg e,show max lo p.fr=hi by omega,exG_id];rfl
 | q :: r,p,st,h,hp=>by
   have hpq:=h.1
   rw [clL,plL]
   by_cases h1:lo < q.fr
   ·by_cases h2:q.fr≤hi
    ·have c1:lo < q.fr∧q.fr≤hi:=⟨h1,h2⟩
     have c2:max lo p.fr≤min hi (q.fr - 1):=by omega
     have e3:max lo q.fr=q.fr:=by omega
     have e4:min hi (q.fr - 1)=q.fr - 1:=by omega
     rw [if_pos c1,if_pos c2,List.foldl_append,ends_places f hlh r q _ h.2 h2,e3,e4]
     simp only [List.foldl_append,List.foldl_cons,List.foldl_nil]
     congr 2
     by_cases e:max lo p.fr < q.fr - 1
     ·rw [if_pos e];rfl
     ·have e5:max lo p.fr=q.fr - 1:=by omega
      rw [if_neg e,e5]
      show exG f (exG f st (q.fr - 1)) (q.fr - 1)=_
      rw [exG_id];rfl
    ·have c1: ¬ (lo < q.fr∧q.fr≤hi):=fun h=>h2 h.2
     have c2:max lo p.fr≤min hi (q.fr - 1):=by omega
     have e4:min hi (q.fr - 1)=hi:=by omega
     rw [if_neg c1,if_pos c2,clL_none h.2 (by omega),plL_none h.2 (by omega),e4,List.append_nil]
     by_cases e:max lo p.fr < hi
     ·rw [if_pos e];rfl
     ·have e5:max lo p.fr=hi:=by omega
      rw [if_neg e,e5]
      show exG f (exG f st hi) hi=_
      rw [exG_id];rfl
   ·have c1: ¬ (lo < q.fr∧q.fr≤hi):=fun h=>h1 h.1
    have c2: ¬ max lo p.fr≤min hi (q.fr - 1):=by omega
    have e3:max lo q.fr=lo:=by omega
    have e4:max lo p.fr=lo:=by omega
    rw [if_neg c1,if_neg c2,List.nil_append,ends_places f hlh r q _ h.2 (by omega),e3,e4]
theorem line_rise {l:List Piece} (h:lineB l=true):riseP l:=by
 have key:∀ (n k:Nat),k+n=l.length→riseP (l.drop k):=by
  intro n
  induction n with
  | zero=>intro k hk;rw [List.drop_eq_nil_of_le (by omega)];trivial
  | succ n ih=>
    intro k hk
    obtain ⟨p,hp⟩:∃ p,l[k]? =some p:=⟨_,List.getElem?_eq_getElem (by omega)⟩
    rw [dc hp]
    cases n with
    | zero=>rw [List.drop_eq_nil_of_le (by omega)];trivial
    | succ n=>
      obtain ⟨q,hq⟩:∃ q,l[k+1]? =some q:=⟨_,List.getElem?_eq_getElem (by omega)⟩
      have:=ih (k+1) (by omega)
      rw [dc hq] at this ⊢
      refine ⟨?_,this⟩
      unfold lineB at h
      rw [Bool.and_eq_true] at h
      have hg:=Qdm h.2 (show k+1 < l.length by omega)
      unfold pgood at hg
      rw [hq] at hg
      simp only [Nat.add_sub_cancel,hp] at hg
      simp at hg
      omega
 have:=key l.length 0 (by omega)
 rwa [List.drop_zero] at this
theorem ext_places (f:Int→Int) {l:List Piece} {lo hi:Int} (h:lineB l=true) (h0:0≤lo) (hlh:lo≤hi):extS f l lo hi=(plL lo hi l lo).foldl (exG f) (lo,lo):=by
 have hx:exG f (lo,lo) lo=(lo,lo):=by unfold exG;simp
 cases l with
 | nil=>
   have hc:cellL [] lo hi=[(lo,hi)]:=by
    unfold cellL cellN nCell
    have hA:cellA [] lo hi 0=(lo,hi):=rfl
    show ((List.range 1).filter (cellB [] lo hi)).map (cellA [] lo hi)=_
    have hB:cellB [] lo hi 0=true:=decide_eq_true hlh
    rw [show List.range 1=[0] from rfl,List.filter_cons,if_pos hB];rfl
   unfold extS
   rw [hc]
   show exG f (exG f (lo,lo) lo) hi=_
   rw [hx,plL]
   by_cases e:lo < hi
   ·rw [if_pos e];rfl
   ·have e5:hi=lo:=by omega
    rw [if_neg e,e5,hx];rfl
 | cons p r=>
   have hp:=lineB_first h (p:=p) rfl
   unfold extS
   rw [cellL_eq,ends_places f hlh r p _ (line_rise h) (by omega),show max lo p.fr=lo by omega,hx,plL,if_neg (by omega)]
def bst (f:Int→Int) (high:Bool) (a n:Int):Int:=if (if high=true then f a < f n else f n < f a) then n else a
theorem bst_fold (f:Int→Int):∀ (l:List Int) (a b:Int),(l.foldl (exG f) (a,b))=(l.foldl (bst f false) a,l.foldl (bst f true) b)
 | [],a,b=>rfl
 | n :: l,a,b=>by
   rw [List.foldl_cons,List.foldl_cons,List.foldl_cons, ←bst_fold f l];rfl
theorem bst_mem (f:Int→Int) (high:Bool):∀ (l:List Int) (a:Int),l.foldl (bst f high) a=a∨l.foldl (bst f high) a∈l
 | [],a=>.inl rfl
 | n :: l,a=>by
   rw [List.foldl_cons]
   rcases bst_mem f high l (bst f high a n) with h | h
   ·rw [h]
    by_cases c:(if high=true then f a < f n else f n < f a)
    ·rw [show bst f high a n=n from if_pos c];exact .inr List.mem_cons_self
    ·rw [show bst f high a n=a from if_neg c];exact .inl rfl
   ·exact .inr (List.mem_cons_of_mem _ h)
theorem plL_ge {lo hi:Int} (hlh:lo≤hi):∀ (r:List Piece) (s:Int),lo≤s→∀ n∈plL lo hi r s,lo≤n∧n≤hi
 | [],s,hs,n,hn=>by
   rw [plL] at hn
   split at hn
   ·rw [List.mem_singleton.1 hn];omega
   ·cases hn
 | p :: r,s,hs,n,hn=>by
   rw [plL] at hn
   split at hn
   ·rename_i h1
    rcases List.mem_append.1 hn with h | h
    ·split at h
     ·rw [List.mem_singleton.1 h];omega
     ·cases h
    ·rcases List.mem_cons.1 h with h | h
     ·omega
     ·exact plL_ge hlh r p.fr (by omega) n h
   ·exact plL_ge hlh r s hs n hn
theorem Qge {l:List Piece} (h:lineB l=true) (high:Bool):∀ (ys:List Int) (best:Int) (k:Nat),(∀ y∈ys,0≤y)→0≤best→Qbc l high ys best k=some (ys.foldl (bst (closV l) high) best)
 | [],best,k,_,_=>rfl
 | y :: ys,best,k,hy,hb=>by
   have h1:=hy y List.mem_cons_self
   have h2:=fun z hz=>hy z (List.mem_cons_of_mem _ hz)
   rw [Qbc,value_eq,value_eq, ←clos_ref h h1, ←clos_ref h hb,List.foldl_cons]
   simp only [Option.bind_some]
   cases high with
   | true=>
     simp only [cond_true]
     by_cases c:closV l best < closV l y
     ·rw [decide_eq_true c,show bst (closV l) true best y=y from if_pos c]
      exact Qge h true ys y _ h2 h1
     ·rw [decide_eq_false c,show bst (closV l) true best y=best from if_neg c]
      exact Qge h true ys best _ h2 hb
   | false=>
     simp only [cond_false]
     by_cases c:closV l y < closV l best
     ·rw [decide_eq_true c,show bst (closV l) false best y=y from if_pos c]
      exact Qge h false ys y _ h2 h1
     ·rw [decide_eq_false c,show bst (closV l) false best y=best from if_neg c]
      exact Qge h false ys best _ h2 hb
def selB (high:Bool):Int × Int→Int:=if high=true then Prod.snd else Prod.fst
theorem extreme_eq {l:List Piece} {lo hi:Int} (h:lineB l=true) (h0:0≤lo) (hlh:lo≤hi) (high:Bool):Qas l (lo,hi) high=some (selB high (extS (closV l) l lo hi)):=by
 unfold Qas
 rw [places_eq h]
 simp only [Option.bind_some,List.getElem?_cons_zero,List.drop_succ_cons,List.drop_zero]
 rw [Qge h high _ _ _ (fun y hy=>by have:=plL_ge hlh l lo (by omega) y hy;omega) h0,ext_places _ h h0 hlh,bst_fold]
 cases high <;> rfl
theorem ext_in {l:List Piece} {lo hi:Int} (h:lineB l=true) (h0:0≤lo) (hlh:lo≤hi) (high:Bool):lo≤selB high (extS (closV l) l lo hi)∧selB high (extS (closV l) l lo hi)≤hi:=by
 have key:∀ b,lo≤(plL lo hi l lo).foldl (bst (closV l) b) lo∧(plL lo hi l lo).foldl (bst (closV l) b) lo≤hi:=fun b=>by
  rcases bst_mem (closV l) b (plL lo hi l lo) lo with e | e
  ·rw [e];omega
  ·exact plL_ge hlh l lo (by omega) _ e
 rw [ext_places _ h h0 hlh,bst_fold]
 cases high
 ·exact key false
 ·exact key true
def litF (v:Version) (f:Room→Int) (i:Nat) (l:List Room) (a:Int):Int:=l.foldl (fun a r=>if (grp v r).1=(i:Int) then wadd a (f r) else a) a
theorem litF_c {v:Version} {f:Room→Int} {i:Nat} {r:Room} {l:List Room} {a:Int}:litF v f i (r :: l) a=litF v f i l (if (grp v r).1=(i:Int) then wadd a (f r) else a):=rfl
theorem lit_fold {v:Version} {i:Nat} (M:Int) (hM:M=1000000000) (l:List Room):∀ (a b n:Int),(∀ r∈l,0≤r.lo∧r.lo≤r.hi∧r.hi≤M)→0≤a→a≤b→b≤n * M→0≤n→n+l.length≤20→
   0≤litF v Room.lo i l a∧litF v Room.lo i l a≤litF v Room.hi i l b∧litF v Room.hi i l b≤20000000000:=by
 induction l with
 | nil=>
   intro a b n h h1 h2 h3 h0 h4
   rw [List.length_nil] at h4
   show 0≤a∧a≤b∧b≤20000000000
   subst hM
   omega
 | cons r l ih=>
   intro a b n h h1 h2 h3 h0 h4
   have hr:=h r List.mem_cons_self
   have hl:=fun x hx=>h x (List.mem_cons_of_mem _ hx)
   rw [List.length_cons] at h4
   rw [litF_c,litF_c]
   by_cases e:(grp v r).1=(i:Int)
   ·rw [if_pos e,if_pos e]
    have e1:wadd a r.lo=a+r.lo:=wr_id (by subst hM;omega)
    have e2:wadd b r.hi=b+r.hi:=wr_id (by subst hM;omega)
    rw [e1,e2]
    exact ih _ _ (n+1) hl (by omega) (by omega) (by rw [Int.add_mul,Int.one_mul];omega) (by omega) (by omega)
   ·rw [if_neg e,if_neg e]
    exact ih a b n hl h1 h2 h3 h0 (by omega)
theorem rooms_in {l:List Room} (h:Qdk l=0):∀ r∈l,0≤r.lo∧r.lo≤r.hi∧r.hi≤1000000000:=by
 unfold Qdk at h
 split at h
 ·rename_i h1
  intro r hr
  obtain ⟨k,hk⟩:=List.getElem?_of_mem hr
  have hg:=Qdm h1.2 (List.getElem?_eq_some_iff.1 hk).1
  unfold rgood at hg
  rw [hk] at hg
  simp only [Bool.and_eq_true] at hg
  have:=hg.1
  unfold Room.ok at this
  simp at this
  omega
 ·cases h
theorem lit_in {v:Version} {i:Nat} {l:List Room} (h:Qdk l=0):0≤litI v Room.lo i l∧litI v Room.lo i l≤litI v Room.hi i l∧litI v Room.hi i l≤20000000000:=by
 exact lit_fold (v:=v) (i:=i) _ rfl l 0 0 0 (rooms_in h) (by omega) (by omega) (by omega) (by omega) (by have:=rooms20 h;omega)
theorem tonS_congr {v:Version} {k:Nat} {x0 x1 x2 x3 x4 y0 y1 y2 y3 y4:Int} (h0:refV (v.ln (5 * k)) x0=closV (v.ln (5 * k)) y0) (h1:refV (v.ln (5 * k+1)) x1=closV (v.ln (5 * k+1)) y1) (h2:refV (v.ln (5 * k+2)) x2=closV (v.ln (5 * k+2)) y2) (h3:refV (v.ln (5 * k+3)) x3=closV (v.ln (5 * k+3)) y3) (h4:refV (v.ln (5 * k+4)) x4=closV (v.ln (5 * k+4)) y4):tonS refV v k x0 x1 x2 x3 x4=tonS closV v k y0 y1 y2 y3 y4:=by
 unfold tonS
 rw [h0,h1,h2,h3,h4]
theorem end_eq {v:Version} {f:Int} {lit:Nat→Int × Int} (hf:f=0∨f=1) (hl:∀ k,k < 10→lineB (v.ln k)=true) (hlit:∀ i,0≤(lit i).1∧(lit i).1≤(lit i).2) (high:Bool):
  ∃ e,Qer v f lit high=some e∧(∀ i,i < 5→e.Litres i=selB high (judL v f.toNat (fun i=>(lit (i - 1)).1) (fun i=>(lit (i - 1)).2) (i+1)))∧e.Tonnage=judT (selB high) v f (fun i=>(lit (i - 1)).1) (fun i=>(lit (i - 1)).2):=by
 have hx:∀ k i,k < 10→Qas (v.ln k) (lit i) high=some (selB high (extS (closV (v.ln k)) (v.ln k) (lit i).1 (lit i).2)):=fun k i hk=>extreme_eq (hl k hk) (hlit i).1 (hlit i).2 high
 have hc:∀ k i,k < 10→refV (v.ln k) (selB high (extS (closV (v.ln k)) (v.ln k) (lit i).1 (lit i).2))=closV (v.ln k) (selB high (extS (closV (v.ln k)) (v.ln k) (lit i).1 (lit i).2)):=fun k i hk=>(clos_ref (hl k hk) (by have:=ext_in (hl k hk) (hlit i).1 (hlit i).2 high;have:=(hlit i).1;omega)).symm
 unfold Qer
 rcases hf with rfl | rfl
 ·simp only [hx 0 0 (by decide),hx 1 1 (by decide),hx 2 2 (by decide),hx 3 3 (by decide),hx 4 4 (by decide),Option.bind_some,tonnage_eq _ _ _ (.inl rfl),decide_true,cond_true]
  refine ⟨_,rfl,fun i hi=>?_,?_⟩
  ·match i,hi with
   | 0,_=>rfl
   | 1,_=>rfl
   | 2,_=>rfl
   | 3,_=>rfl
   | 4,_=>rfl
  ·refine congrArg downI ?_
   exact tonS_congr (hc 0 0 (by decide)) (hc 1 1 (by decide)) (hc 2 2 (by decide)) (hc 3 3 (by decide)) (hc 4 4 (by decide))
 ·simp only [hx 5 0 (by decide),hx 6 1 (by decide),hx 7 2 (by decide),hx 8 3 (by decide),hx 9 4 (by decide),Option.bind_some,tonnage_eq _ _ _ (.inr rfl),decide_true,cond_true,show decide ((1:Int)=0)=false from rfl,cond_false]
  refine ⟨_,rfl,fun i hi=>?_,?_⟩
  ·match i,hi with
   | 0,_=>rfl
   | 1,_=>rfl
   | 2,_=>rfl
   | 3,_=>rfl
   | 4,_=>rfl
  ·refine congrArg downI ?_
   exact tonS_congr (hc 5 0 (by decide)) (hc 6 1 (by decide)) (hc 7 2 (by decide)) (hc 8 3 (by decide)) (hc 9 4 (by decide))
end Go.Proofs.YtjflgemfeofciaaGreatDoor
namespace Go.Proofs.YtjflgemfeofciaaGreatDoor
open Go Go.Ev
set_option linter.unusedVariables false
set_option linter.unusedSimpArgs false
theorem endE_rooms {c:Code} {day f:Int} {l:List Room} (h:endE c day f l=0):Qdk l=0:=by
 unfold endE withE at h
 obtain ⟨_,b⟩:=Qdq (by decide) h
 by_cases e0:Qdk l=0
 ·exact e0
 ·rw [decide_eq_false e0] at b;cases b
theorem endE_ver {c:Code} {day f:Int} {l:List Room} (h:endE c day f l=0):atI c.vs (Qbw c day)=some (verF c day):=by
 unfold endE withE at h
 obtain ⟨a,_⟩:=Qdq (by decide) h
 obtain ⟨_,_,i1,i2⟩:=onE_zero a
 unfold atI verF
 rw [if_pos i1,List.getD_eq_getElem?_getD,List.getElem?_eq_getElem (by omega)];rfl
theorem plan_eq {c:Code} {day f:Int} {l:List Room} (h:endE c day f l=0) (n:Int):Qgb (verF c day) n l=some (planD (verF c day) n l):=by
 have hz:=Qgf h
 unfold Qgb
 rw [decide_eq_true hz.len,hz.puts];rfl
def litA (v:Version) (l:List Room):Nat→Int × Int:=arr [(litI v Room.lo 1 l,litI v Room.hi 1 l),(litI v Room.lo 2 l,litI v Room.hi 2 l),(litI v Room.lo 3 l,litI v Room.hi 3 l),(litI v Room.lo 4 l,litI v Room.hi 4 l),(litI v Room.lo 5 l,litI v Room.hi 5 l)] (litI v Room.lo 1 l,litI v Room.hi 1 l)
theorem litres_eq (v:Version) (n:Int) (l:List Room):Qeo (planD v n l)=some (litA v l):=rfl
theorem askI_eq {c:Code} {day f:Int} {l:List Room} (h:endE c day f l=0):askI c day f l=Qbw c day:=if_pos h
end Go.Proofs.YtjflgemfeofciaaGreatDoor
