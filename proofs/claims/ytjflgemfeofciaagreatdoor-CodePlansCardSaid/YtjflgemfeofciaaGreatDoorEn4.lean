import Derived.Test.YtjflgemfeofciaaGreatDoorJu4
import Derived.Test.YtjflgemfeofciaaGreatDoorPq4
namespace Go.Proofs.YtjflgemfeofciaaGreatDoor
open Go Go.Ev
set_option linter.unusedVariables false
set_option linter.unusedSimpArgs false
set_option maxRecDepth 10000
theorem onE_zero {c:Code} {day f:Int} (h:onE c.err c day f=0):c.err=0∧(f=0∨f=1)∧0≤Qax c day∧Qax c day < c.vs.length:=by
 have h0:=on_ix h
 unfold onE byE at h
 obtain ⟨a,_⟩:=Qcr (by decide) h
 obtain ⟨b,e⟩:=Qcr (by decide) a
 obtain ⟨d,_⟩:=Qcr (by decide) b
 refine ⟨d,?_,h0⟩
 by_cases e0:f=0
 ·exact .inl e0
 ·by_cases e1:f=1
  ·exact .inr e1
  ·rw [decide_eq_false e0,decide_eq_false e1] at e;cases e
theorem err_ver {c:Code} {k:Nat} {y:Version} (h:c.err=0) (hy:c.vs[k]? =some y):y.ok=true:=by
 unfold Code.err at h
 split at h
 ·rename_i h1
  unfold Code.ok at h1
  simp only [Bool.and_eq_true] at h1
  have:=allR_get h1.2.2 (List.getElem?_eq_some_iff.1 hy).1
  unfold vgood at this
  rw [hy] at this
  simp only [Bool.and_eq_true] at this
  exact this.1
 ·cases h
theorem Qdq {v:Version} (h:v.ok=true):v.puts.all Put.ok=true:=by
 unfold Version.ok at h
 simp only [Bool.and_eq_true] at h
 exact h.2.2.1
theorem ver_lines {v:Version} (h:v.ok=true):∀ k,k < 10→lineB (v.ln k)=true:=by
 unfold Version.ok at h
 simp only [Bool.and_eq_true] at h
 exact fun k hk=>allR_get h.2.2.2 hk
def verF (c:Code) (day:Int):Version:=c.vs.getD (Qax c day).toNat .none
def endE (c:Code) (day f:Int) (l:List Room):Int:=withE (onE c.err c day f) l
theorem rooms20 {l:List Room} (h:Qcp l=0):l.length≤20:=by
 unfold Qcp at h
 split at h
 ·rename_i h1;exact h1.1
 ·cases h
structure EndOk (c:Code) (day f:Int) (l:List Room):Prop where
 on:onE c.err c day f=0
 f01:f=0∨f=1
 ver:onV c.err c day f .none=verF c day
 idx:onX c.err c day f (-1)=Qax c day
 puts:(verF c day).puts.all Put.ok=true
 lines:∀ k,k < 10→lineB ((verF c day).ln k)=true
 len:l.length≤20
theorem endE_zero {c:Code} {day f:Int} {l:List Room} (h:endE c day f l=0):EndOk c day f l:=by
 unfold endE withE at h
 obtain ⟨a,b⟩:=Qcr (by decide) h
 obtain ⟨e,f01,i1,i2⟩:=onE_zero a
 have hy:c.vs[(Qax c day).toNat]? =some (verF c day):=by
  have:(Qax c day).toNat < c.vs.length:=by omega
  unfold verF
  rw [List.getD_eq_getElem?_getD,List.getElem?_eq_getElem this];rfl
 have hv:=err_ver e hy
 refine ⟨a,f01,onV_yes a hy,onX_yes a,Qdq hv,ver_lines hv,rooms20 ?_⟩
 by_cases e0:Qcp l=0
 ·exact e0
 ·rw [decide_eq_false e0] at b;cases b
end Go.Proofs.YtjflgemfeofciaaGreatDoor
