import Derived.Test.YtjflgemfeofciaaGreatDoorMX2
import Derived.SizedLaws
namespace Go.Ev
open Go
set_option linter.unusedVariables false
theorem RS.lenV {α:Type} {R:G→List V→α→Prop} {s k:Nat} {g:G} {v:Value} {l:List α} (h:RS R s g (aV k v) l):l=[]∨∃ a n c,v= .slice (some a) n c∧l.length=n:=by
 obtain ⟨_,h⟩:=h
 rcases h with ⟨_,h⟩ | ⟨_,h⟩ | ⟨b,o,h,_⟩
 ·exact .inl h
 ·exact .inl h
 ·refine .inr ?_
  revert h
  generalize hx:aV k v=x
  intro h
  cases h with
  | sl=>
   unfold aV at hx
   split at hx <;> try cases hx
   ·split at hx <;> cases hx
   ·rename_i r o n c
    split at hx
    ·cases hx;exact ⟨_,_,_,rfl,rfl⟩
    ·split at hx
     ·split at hx <;> cases hx
     ·cases hx
  | su=>
   unfold aV at hx
   split at hx <;> try cases hx
   ·split at hx <;> cases hx
   ·split at hx
    ·cases hx
    ·split at hx
     ·split at hx <;> cases hx
     ·cases hx
theorem sz_slice {α:Type} {R:G→List V→α→Prop} {s k n:Nat} {g:G} {v:Value} {l:List α} {H:Type} {enc:TypeId × Value→H} {P:Program} {W:World} {ts:List TypeId} {ds:List (DataW H)} {d:DataW H} {p:List MemPlace} {j:Nat} {t e:TypeId}
  (hr:RS R s g (aV k v) l) (hu:P.underlying t=some (.slice e)) (h:DataW.Trod enc P W 0 (fun _=>true) true t v d p) (hw:(DataW.weightsEach P ts ds).all (· ≤reachBytes)=true) (ht:ts[j]? =some t) (hd:ds[j]? =some d) (hb:P.bytesOf e=n):l.length * n≤reachBytes:=by
 rcases hr.lenV with rfl | ⟨a,len,c,rfl,hl⟩
 ·simp
 ·obtain ⟨fuel,hf⟩:=h
  rcases DataW.trod_slice hu hf with ⟨h1,_⟩ | ⟨a2,len2,cap,elems,rest,m,_,h2,h3,_,_,_,h4,_⟩
  ·cases h1
  ·cases h2
   have h5:=Prod.mk.inj h3
   have:=sized_slice hw (j:=j) (t:=t) (e:=e) (elems:=elems.map (·.1)) (spare:=rest.map (·.1)) ht (by rw [hd,h5.1]) hu
   rw [hb,List.length_map,h4] at this
   rw [hl]
   exact Nat.le_trans (Nat.mul_le_mul_right n (Nat.le_add_right _ _)) this
end Go.Ev
