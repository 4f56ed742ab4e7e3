import Derived.Test.YtjflgemfeofciaaGreatDoorMU3
import Derived.Test.YtjflgemfeofciaaGreatDoorWm4
import Derived.Test.YtjflgemfeofciaaGreatDoorMU4
import Derived.Test.YtjflgemfeofciaaGreatDoorMY2
namespace Go.Proofs.YtjflgemfeofciaaGreatDoor
open Go Go.Ev
set_option linter.unusedVariables false
set_option linter.unusedSimpArgs false
set_option maxRecDepth 10000
end Go.Proofs.YtjflgemfeofciaaGreatDoor
namespace Go.Proofs.YtjflgemfeofciaaGreatDoor
open Go Go.Ev
set_option linter.unusedVariables false
set_option linter.unusedSimpArgs false
theorem judge_code (c:Code) (day f:Int) (l:List Room):F_code_Judge c day f l=some (judC c day f l,endE c day f l):=rfl
theorem force_in {c:Code} {q:T_Ask} (h:WldOk c q):∃ n y,Qbc c q.Day=((n:Nat):Int)∧c.vs[n]? =some y∧y.fr≤q.Day∧Qco c q.Day=some ((n:Int),0):=by
 obtain ⟨y0,hy0,hf0⟩:=h.first
 have hb:=forceI_bd c q.Day
 have hd:=h.day
 have key:∀ (l:List Version) (k:Nat) (out:Int),(out < k∧(∀ n:Nat,out=n→∃ y,(fun (m:Nat)=>c.vs[m]?) n=some y∧y.fr≤q.Day))→c.vs.drop k=l→ -1≤out→∀ n:Nat,fiF q.Day l k out=n→∃ y,c.vs[n]? =some y∧y.fr≤q.Day:=by
  intro l
  induction l with
  | nil=>intro k out ⟨_,h2⟩ _ _ n hn;exact h2 n hn
  | cons v l ih=>
   intro k out ⟨h1,h2⟩ hl ho n hn
   obtain ⟨hv,hs⟩:=drop_get hl
   rw [fiF] at hn
   refine ih (k+1) _ ⟨?_,?_⟩ hs ?_ n hn
   ·split <;> omega
   ·intro m hm
    split at hm
    ·rename_i hle
     obtain rfl:m=k:=by omega
     exact ⟨v,hv,hle⟩
    ·exact h2 m hm
   ·split <;> omega
 have hge:0≤Qbc c q.Day:=by
  refine Decidable.byContradiction fun hneg=>?_
  have h1:Qbc c q.Day= -1:=by omega
  have mono:∀ (l:List Version) (k:Nat) (out:Int),0≤out→0≤fiF q.Day l k out:=by
   intro l
   induction l with
   | nil=>intro k out ho;exact ho
   | cons v l ih=>intro k out ho;rw [fiF];exact ih _ _ (by split <;> omega)
  unfold Qbc at h1
  cases hvs:c.vs with
  | nil=>rw [hvs] at hy0;cases hy0
  | cons v l=>
   rw [hvs] at hy0 h1
   obtain rfl:=Option.some.inj hy0
   rw [fiF,if_pos hf0] at h1
   have:=mono l (0+1) ((0:Nat):Int) (by omega)
   omega
 obtain ⟨n,hn⟩:∃ n:Nat,Qbc c q.Day=n:=⟨(Qbc c q.Day).toNat,by omega⟩
 obtain ⟨y,hy,hle⟩:=key c.vs 0 (-1) ⟨by omega,fun m hm=>by omega⟩ rfl (by omega) n hn
 refine ⟨n,y,hn,hy,hle,?_⟩
 obtain ⟨a,x1,x2⟩:=force_eq c q.Day
 rw [x1, ←x2]
 unfold Qfq
 rw [h.err,hn,Qbr (by omega),decide_eq_false (p:=((n:Nat):Int) < 0) (by omega)];rfl
theorem sameC_self (a:Int × Int):sameC a a=true:=by unfold sameC;rw [decide_eq_true rfl,decide_eq_true rfl];rfl
end Go.Proofs.YtjflgemfeofciaaGreatDoor
