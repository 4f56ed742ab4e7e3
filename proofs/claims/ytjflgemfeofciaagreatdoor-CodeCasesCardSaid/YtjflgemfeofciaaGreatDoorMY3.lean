import Derived.Test.YtjflgemfeofciaaGreatDoorVb4
namespace Go.Proofs.YtjflgemfeofciaaGreatDoor
open Go Go.Ev
set_option linter.unusedVariables false
set_option linter.unusedSimpArgs false
set_option maxRecDepth 10000
def valE (c:Code) (ver fo gr li:Int):Int:=failE (byE (atE c.err c ver) fo) (!Qaq gr 1 5 || !Qaq li 0 20000000000) 1
theorem fo2 {fo:Int} (h:fo=0∨fo=1):0≤fo∧fo < 2:=by omega
def lnX (fo gr:Int):Nat:=5 * fo.toNat+(gr - 1).toNat
def valR (f:List Piece→Int→Int) (c:Code) (ver fo gr li:Int):Int:=if valE c ver fo gr li=0 then f ((c.vs.getD ver.toNat .none).ln (lnX fo gr)) li else 0
end Go.Proofs.YtjflgemfeofciaaGreatDoor
namespace Go.Proofs.YtjflgemfeofciaaGreatDoor
open Go Go.Ev
set_option linter.unusedVariables false
set_option linter.unusedSimpArgs false
set_option maxRecDepth 10000
theorem rv_pv (n:Int):∀ (r:List Piece) (k:Nat) (p:Piece) (l:List Piece),l.drop k=p :: r→∃ q,l[pixF n r k]? =some q∧rvF n r (p.val n)=q.val n
 | [],k,p,l,h=>by
   refine ⟨p,?_,rfl⟩
   have:l[k]? =(l.drop k)[0]? :=by rw [List.getElem?_drop];rfl
   simp only [pixF]
   rw [this,h];rfl
 | q :: r,k,p,l,h=>by
   unfold pixF rvF
   by_cases hq:q.fr≤n
   ·rw [if_pos hq,if_pos hq]
    refine rv_pv n r (k+1) q l ?_
    rw [←List.drop_drop,h];rfl
   ·rw [if_neg hq,if_neg hq]
    refine ⟨p,?_,rfl⟩
    have:l[k]? =(l.drop k)[0]? :=by rw [List.getElem?_drop];rfl
    rw [this,h];rfl
theorem lineB_first {l:List Piece} {p:Piece} (h:lineB l=true) (hp:l[0]? =some p):p.fr=0:=by
 unfold lineB at h
 simp only [Bool.and_eq_true] at h
 have h0:0 < l.length:=(List.getElem?_eq_some_iff.1 hp).1
 have:=Qdm h.2 h0
 unfold pgood at this
 rw [hp] at this
 simp only [if_true,Bool.and_eq_true,decide_eq_true_eq] at this
 exact this.2.2.2
theorem clos_ref {l:List Piece} {n:Int} (h:lineB l=true) (hn:0≤n):closV l n=refV l n:=by
 cases l with
 | nil=>rfl
 | cons p r=>
   have hp:=lineB_first h (p:=p) rfl
   obtain ⟨q,h1,h2⟩:=rv_pv n r 0 p (p :: r) rfl
   unfold closV refV pix rvF
   rw [if_pos (by omega),h2]
   show (match (p :: r)[pixF n r 0]? with | some p=>p.val n | none=>0)=_
   rw [h1]
end Go.Proofs.YtjflgemfeofciaaGreatDoor
