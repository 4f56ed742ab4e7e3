import Derived.Test.YtjflgemfeofciaaGreatDoorMX2
import Derived.SizedLaws
namespace Go.Ev
open Go
set_option linter.unusedVariables false
theorem RS.lenV {α:Type} {R:G→List V→α→Prop} {s k:Nat} {g:G} {v:Value} {l:List α} (h:RS R s g (aV k v) l):l=[]∨∃ a n c,v= .slice (some a) n c∧l.length=n:=by
 obtain ⟨_,h⟩:=h
 rcases h with ⟨_,h⟩ | ⟨_,h⟩ | ⟨b,o,h,_⟩
 ·exact .inl h
 ·exact .inl h
 ·refine .inr ?_
  revert h
  generalize hx:aV k v=x
  intro h
  cases h with
  | sl=>
    unfold aV at hx
    split at hx <;> try cases hx
    ·split at hx <;> cases hx
    ·rename_i r o n c
     split at hx
     ·cases hx;exact ⟨_,_,_,rfl,rfl⟩
     ·split at hx
      ·split at hx <;> cases hx
      ·cases hx
  | su=>
    unfold aV at hx
    split at hx <;> try cases hx
    ·split at hx <;> cases hx
    ·split at hx
     ·cases hx
     ·split at hx
      ·split at hx <;> cases hx
      ·cases hx
end Go.Ev
