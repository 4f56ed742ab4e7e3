import Derived.Test.YtdlmdaononclgaaGreatDoorMG1
import Derived.StillTailTactics
import Derived.OrdersHeld
import Derived.Lib.Hide
import Derived.Laws.EntriesVeiled
import Derived.BigQuiet
import Derived.Outline
namespace Go.Proofs.YtdlmdaononclgaaGreatDoor
open Go.RowKit
set_option linter.unusedVariables false
set_option linter.unusedSimpArgs false
def badH (n:Int):Bool:= !Qbt n 0 20000
theorem badH_pred:Pred 43 badH:=by
 intro x W
 cases h:Qbt x 0 20000 with
 | false=>
   go_enter Tryz.func43,Tryz.ntmps43
   go_wp2_with (go_at_call 44;(with_reducible refine (Qaw h _).mono ?_);rintro e w' ⟨rfl,rfl⟩)
   go_ret
   exact ⟨Qbf (by simp [badH,h]),rfl⟩
 | true=>
   go_enter Tryz.func43,Tryz.ntmps43
   go_wp2_with (go_at_call 44;(with_reducible refine (Qaw h _).mono ?_);rintro e w' ⟨rfl,rfl⟩)
   go_ret
   exact ⟨Qbf (by simp [badH,h]),rfl⟩
def gridB (xs zs:List Int):Bool:=okP 9 100000 xs && okP 7 15000 zs
theorem isGrid_is {xs zs:List Int} {r:Bool} (hr:gridB xs zs=r) (A:Option Addr) (c:Nat) (A2:Option Addr) (c2:Nat) (hc:xs.length≤c) (hm:c≤9223372036854775807) (hc2:zs.length≤c2) (hm2:c2≤9223372036854775807) (w:World) {B B2:Nat} (h:RD w B A (ints xs)) (h2:RD w B2 A2 (ints zs)):
   Calls Tryz.prog 39 #[.slice A xs.length c,.slice A2 zs.length c2] w fun e w'=>e= .returned (.bool r)∧w=w':=by
 cases h1:okP 9 100000 xs with
 | false=>
   have e:r=false:=by rw [←hr,gridB,h1];rfl
   subst e
   clear hr
   go_enter Tryz.func39,Tryz.ntmps39
   go_wp2_with (go_at_call 63;(with_reducible refine (Qcf h1 A c _ hc hm h).mono ?_);rintro e w' ⟨rfl,rfl⟩)
   go_ret
   exact ⟨rfl,rfl⟩
 | true=>
   have e:okP 7 15000 zs=r:=by rw [←hr,gridB,h1];rfl
   clear hr
   go_enter Tryz.func39,Tryz.ntmps39
   go_wp2_with (first | (go_at_call 63;(with_reducible refine (Qcf h1 A c _ hc hm h).mono ?_);rintro e w' ⟨rfl,rfl⟩) | (go_at_call 63;(with_reducible refine (Qcf e A2 c2 _ hc2 hm2 h2).mono ?_);rintro e w' ⟨rfl,rfl⟩))
   go_ret
   exact ⟨rfl,rfl⟩
def Qbq (m:Nat) (l:List Int):Bool:= !decide (l.length=m) || anyB badH l
structure TBox (w:World) (q:Nat) (s1 s2 s3:Value):Prop where
 c0:w.cell? ⟨q,0,none⟩=some s1
 c1:w.cell? ⟨q,1,none⟩=some s2
 c2:w.cell? ⟨q,2,none⟩=some s3
def PredR (g:Nat) (q:Nat) (p:List Int→Bool) (w:World) (B:Nat):Prop:=
 ∀ (v:Value) (l:List Int) (b:Bool),p l=b→SL w B v l→Calls Tryz.prog g #[v,.pointer (some ⟨q,0,none⟩)] w fun e w'=>e= .returned (.bool b)∧w=w'
theorem PredR.at {g q:Nat} {p:List Int→Bool} {w:World} {B:Nat} (h:PredR g q p w B) {v:Value} {l:List Int} {b:Bool} (hq:p l=b) (hs:SL w B v l):
 Calls Tryz.prog g #[v,.pointer (some ⟨q,0,none⟩)] w fun e w'=>e= .returned (.bool b)∧w=w':=h v l b hq hs
theorem rowBad_pred (q:Nat) (zs:List Int) (A2:Option Addr) (c2:Nat) (w:World) (B:Nat) (hq:w.cell? ⟨q,1,none⟩=some (.slice A2 zs.length c2)):PredR 41 q (Qbq zs.length) w B:=by
 rintro v l b hb ⟨A,c,rfl,hc,hm,h⟩
 have eg:∀ args w,(callFunc 43 args).run Tryz.prog w= .ok (.enter 43 args) w:=enters_of Tryz.func43 (by kernel_rfl) rfl
 have EG:=Lib.hid eg
 clear eg
 by_cases hl:l.length=zs.length
 ·have hr:anyB badH l=b:=by rw [←hb,Qbq];simp [hl]
  have e1:(((l.length:Int) != (zs.length:Int))=false):=by simp [hl]
  have HL:=Lib.hid hl
  clear hl hb
  go_enter Tryz.func41,Tryz.ntmps41
  go_wp2_with (go_at_call 42;(with_reducible refine (Qcn _ EG.out badH_pred hr A c _ hc hm h).mono ?_);rintro e w' ⟨rfl,rfl⟩)
  go_ret
  exact ⟨rfl,rfl⟩
 ·have e:b=true:=by rw [←hb,Qbq];simp [hl]
  subst e
  have e1:=neq_beq hl
  have HL:=Lib.hid hl
  clear hl hb
  go_enter Tryz.func41,Tryz.ntmps41
  go_wp2_with fail
  go_ret
  exact ⟨rfl,rfl⟩
def anyR (p:List Int→Bool) (rs:List (List Int)):Bool:=rs.any p
theorem anyR_no {p:List Int→Bool} {rs:List (List Int)} (h:∀ j,j < rs.length→p (rx rs j)=false):anyR p rs=false:=by
 rw [anyR,List.any_eq_false]
 intro x hx
 obtain ⟨j,hj,rfl⟩:=List.getElem_of_mem hx
 have:=h j hj
 simp only [rx,List.getD,List.getElem?_eq_getElem hj,Option.getD_some] at this
 simp [this]
theorem anyR_yes {p:List Int→Bool} {rs:List (List Int)} (j:Nat) (hj:j < rs.length) (h:p (rx rs j)=true):anyR p rs=true:=by
 rw [anyR,List.any_eq_true]
 refine ⟨rs[j],List.getElem_mem hj,?_⟩
 simpa only [rx,List.getD,List.getElem?_eq_getElem hj,Option.getD_some] using h
def IdxPostR (p:List Int→Bool) (rs:List (List Int)) (w:World) (e:Ending) (w':World):Prop:=
 ∃ i:Int,e= .returned (.int .i64 i)∧w=w'∧decide (0≤i)=anyR p rs
set_option maxHeartbeats 1000000 in
theorem IndexFuncR_any (g q:Nat) (eg:∀ args w,(callFunc g args).run Tryz.prog w= .ok (.enter g args) w) (p:List Int→Bool) (w:World) {B:Nat} (hp:PredR g q p w B) (rs:List (List Int)) (vs:List Value) (A:Option Addr) (c:Nat) (hc:rs.length≤c) (hm:c≤9223372036854775807) (h:RR w B A vs rs):
  Calls Tryz.prog 64 #[.slice A rs.length c,.func (.func g) #[] #[.pointer (some ⟨q,0,none⟩)]] w (IdxPostR p rs w):=by
 have HP:=Lib.hid hp;clear hp
 have HR:=Lib.hid h;clear h
 go_enter Tryz.func64,Tryz.ntmps64
 go_wp2
 go_loop [8] (fun x=>∃ k:Nat,k≤rs.length∧x= .int .i64 k∧∀ j:Nat,j < k→p (rx rs j)=false) (fun x=>rs.length - (intOf x).toNat)
 case atStart=>exact ⟨0,by omega,rfl,fun j hj=>by omega⟩
 case round=>
  obtain ⟨k,hk,rfl,hlt⟩:=hrel
  have HL:=Lib.hid hlt;clear hlt
  by_cases hk':k < rs.length
  ·obtain ⟨b,off,rfl,hb,hcell⟩:=HR.out.cells (by omega)
   have y0:=hcell k (by omega)
   have hsl:=HR.out.each k hk'
   have HS:=Lib.hid hsl
   clear hcell hsl
   cases hq:p (rx rs k) with
   | true=>
     have HQ:=Lib.hid hq
     go_wp2_with (go_at_fn g;(with_reducible refine (PredR.at HP.out HQ.out HS.out).mono ?_);rintro e w' ⟨rfl,rfl⟩)
     go_ret
     exact ⟨k,rfl,rfl,by rw [anyR_yes k hk' HQ.out];exact decide_eq_true (by omega)⟩
   | false=>
     have HQ:=Lib.hid hq
     go_wp2_with (go_at_fn g;(with_reducible refine (PredR.at HP.out HQ.out HS.out).mono ?_);rintro e w' ⟨rfl,rfl⟩)
     go_round
     case rel=>exact ⟨k+1,by omega,by go_num,fun j hj=>(by rcases (by omega:j < k∨j=k) with h | rfl;exact HL.out j h;exact HQ.out)⟩
     case measure=>simp [intOf];omega
  ·go_wp2
   go_ret
   exact ⟨-1,rfl,rfl,by rw [anyR_no (fun j hj=>HL.out j (by omega))];rfl⟩
theorem ContainsFuncR_is (g q:Nat) (eg:∀ args w,(callFunc g args).run Tryz.prog w= .ok (.enter g args) w) {p:List Int→Bool} (w:World) {B:Nat} (hp:PredR g q p w B) {rs:List (List Int)} {r:Bool} (hr:anyR p rs=r) (vs:List Value) (A:Option Addr) (c:Nat) (hc:rs.length≤c) (hm:c≤9223372036854775807) (h:RR w B A vs rs):
  Calls Tryz.prog 40 #[.slice A rs.length c,.func (.func g) #[] #[.pointer (some ⟨q,0,none⟩)]] w fun e w'=>e= .returned (.bool r)∧w=w':=by
 have H:=Lib.hid (IndexFuncR_any g q eg p w hp rs vs A c hc hm h)
 have HR:=Lib.hid hr;clear hr hp h
 go_enter Tryz.func40,Tryz.ntmps40
 go_wp2_with (go_at_call 64;(with_reducible refine H.out.mono ?_);rintro e w' ⟨i,rfl,rfl,hi⟩;have HI:=Lib.hid hi;clear hi)
 go_ret
 exact ⟨Qbf (HI.out.trans HR.out),rfl⟩
def Qav (xs zs:List Int) (rs:List (List Int)):Bool:=gridB xs zs && (decide (rs.length=xs.length) && !anyR (Qbq zs.length) rs)
structure TD (w:World) (B:Nat) (xs zs:List Int) (rs:List (List Int)) (A1:Option Addr) (c1:Nat) (A2:Option Addr) (c2:Nat) (A3:Option Addr) (c3:Nat) (vs:List Value):Prop where
 hc1:xs.length≤c1
 hm1:c1≤9223372036854775807
 rd1:RD w B A1 (ints xs)
 hc2:zs.length≤c2
 hm2:c2≤9223372036854775807
 rd2:RD w B A2 (ints zs)
 hc3:rs.length≤c3
 hm3:c3≤9223372036854775807
 rd3:RR w B A3 vs rs
theorem TD.keep {w w':World} {B B':Nat} {xs zs:List Int} {rs:List (List Int)} {A1 A2 A3:Option Addr} {c1 c2 c3:Nat} {vs:List Value} (h:TD w B xs zs rs A1 c1 A2 c2 A3 c3 vs) (hb:Below B' w w') (hB:B≤B'):TD w' B xs zs rs A1 c1 A2 c2 A3 c3 vs:=
 ⟨h.hc1,h.hm1,h.rd1.keep hb hB,h.hc2,h.hm2,h.rd2.keep hb hB,h.hc3,h.hm3,h.rd3.keep hb hB⟩
theorem TD.more {w:World} {B B':Nat} {xs zs:List Int} {rs:List (List Int)} {A1 A2 A3:Option Addr} {c1 c2 c3:Nat} {vs:List Value} (h:TD w B xs zs rs A1 c1 A2 c2 A3 c3 vs) (hB:B≤B'):TD w B' xs zs rs A1 c1 A2 c2 A3 c3 vs:=
 ⟨h.hc1,h.hm1,h.rd1.more hB,h.hc2,h.hm2,h.rd2.more hB,h.hc3,h.hm3,h.rd3.more hB⟩
set_option maxHeartbeats 1000000 in
theorem Qcz {xs zs:List Int} {rs:List (List Int)} {r:Bool} (hr:Qav xs zs rs=r) (A1:Option Addr) (c1:Nat) (A2:Option Addr) (c2:Nat) (A3:Option Addr) (c3:Nat) (vs:List Value) (w:World) (h:TD w w.heap.size xs zs rs A1 c1 A2 c2 A3 c3 vs):
   Calls Tryz.prog 14 #[.agg #[.slice A1 xs.length c1,.slice A2 zs.length c2,.slice A3 rs.length c3]] w fun e w'=>e= .returned (.bool r)∧Below w.heap.size w w':=by
 have eg:∀ args w,(callFunc 41 args).run Tryz.prog w= .ok (.enter 41 args) w:=enters_of Tryz.func41 (by kernel_rfl) rfl
 have hmf:∀ (fn:Fn) (first cap:Array Value) (w:World),(Instr.makeFunc fn first cap).run Tryz.prog w= .ok (.func fn first cap) w:=fun _ _ _ _=>rfl
 have EG:=Lib.hid eg
 have H:=Lib.hid h
 clear eg h
 cases hg:gridB xs zs with
 | false=>
   have e:r=false:=by rw [←hr,Qav,hg];rfl
   subst e
   have HG:=Lib.hid hg
   clear hr hg
   go_enter Tryz.func14,Tryz.ntmps14
   go_wp2_with (go_at_call 39;(with_reducible refine (isGrid_is HG.out A1 c1 A2 c2 H.out.hc1 H.out.hm1 H.out.hc2 H.out.hm2 _ (H.out.rd1.keep (by repeat' (first | (with_reducible exact Below.refl _ _) | (with_reducible assumption) | (refine Qa (by assumption) ?_ ?_) | (with_reducible refine Qaa ?_ _) | (with_reducible refine Below.drew ?_) | (with_reducible refine Below.alloc ?_ ?_ _) | (with_reducible refine Below.setCell ?_ ?_ _) | go_size)) (Nat.le_refl _)) (H.out.rd2.keep (by repeat' (first | (with_reducible exact Below.refl _ _) | (with_reducible assumption) | (refine Qa (by assumption) ?_ ?_) | (with_reducible refine Qaa ?_ _) | (with_reducible refine Below.drew ?_) | (with_reducible refine Below.alloc ?_ ?_ _) | (with_reducible refine Below.setCell ?_ ?_ _) | go_size)) (Nat.le_refl _))).mono ?_);rintro e w' ⟨rfl,rfl⟩)
   go_ret
   refine ⟨rfl,?_⟩
   repeat' (first | (with_reducible exact Below.refl _ _) | (with_reducible assumption) | (refine Qa (by assumption) ?_ ?_) | (with_reducible refine Qaa ?_ _) | (with_reducible refine Below.drew ?_) | (with_reducible refine Below.alloc ?_ ?_ _) | (with_reducible refine Below.setCell ?_ ?_ _) | go_size)
 | true=>
   have HG:=Lib.hid hg
   by_cases hl:rs.length=xs.length
   ·cases ha:anyR (Qbq zs.length) rs with
    | true=>
      have e:r=false:=by rw [←hr,Qav,ha];simp
      subst e
      have e1:(((rs.length:Int) == (xs.length:Int))=true):=by simp [hl]
      have HL:=Lib.hid hl
      have HA:=Lib.hid ha
      clear hr hg hl ha
      go_enter Tryz.func14,Tryz.ntmps14
      go_wp2_with (first | (go_at_call 39;(with_reducible refine (isGrid_is HG.out A1 c1 A2 c2 H.out.hc1 H.out.hm1 H.out.hc2 H.out.hm2 _ (H.out.rd1.keep (by repeat' (first | (with_reducible exact Below.refl _ _) | (with_reducible assumption) | (refine Qa (by assumption) ?_ ?_) | (with_reducible refine Qaa ?_ _) | (with_reducible refine Below.drew ?_) | (with_reducible refine Below.alloc ?_ ?_ _) | (with_reducible refine Below.setCell ?_ ?_ _) | go_size)) (Nat.le_refl _)) (H.out.rd2.keep (by repeat' (first | (with_reducible exact Below.refl _ _) | (with_reducible assumption) | (refine Qa (by assumption) ?_ ?_) | (with_reducible refine Qaa ?_ _) | (with_reducible refine Below.drew ?_) | (with_reducible refine Below.alloc ?_ ?_ _) | (with_reducible refine Below.setCell ?_ ?_ _) | go_size)) (Nat.le_refl _))).mono ?_);rintro e w' ⟨rfl,rfl⟩) | (go_at_call 40;(with_reducible refine (ContainsFuncR_is _ w.heap.size EG.out _ (rowBad_pred w.heap.size zs A2 c2 _ w.heap.size (by simp [go_sem])) HA.out vs A3 c3 H.out.hc3 H.out.hm3 (H.out.rd3.keep (by repeat' (first | (with_reducible exact Below.refl _ _) | (with_reducible assumption) | (refine Qa (by assumption) ?_ ?_) | (with_reducible refine Qaa ?_ _) | (with_reducible refine Below.drew ?_) | (with_reducible refine Below.alloc ?_ ?_ _) | (with_reducible refine Below.setCell ?_ ?_ _) | go_size)) (Nat.le_refl _))).mono ?_);rintro e w' ⟨rfl,rfl⟩))
      go_ret
      refine ⟨rfl,?_⟩
      repeat' (first | (with_reducible exact Below.refl _ _) | (with_reducible assumption) | (refine Qa (by assumption) ?_ ?_) | (with_reducible refine Qaa ?_ _) | (with_reducible refine Below.drew ?_) | (with_reducible refine Below.alloc ?_ ?_ _) | (with_reducible refine Below.setCell ?_ ?_ _) | go_size)
    | false=>
      have e:r=true:=by rw [←hr,Qav,ha,hg];simp [hl]
      subst e
      have e1:(((rs.length:Int) == (xs.length:Int))=true):=by simp [hl]
      have HL:=Lib.hid hl
      have HA:=Lib.hid ha
      clear hr hg hl ha
      go_enter Tryz.func14,Tryz.ntmps14
      go_wp2_with (first | (go_at_call 39;(with_reducible refine (isGrid_is HG.out A1 c1 A2 c2 H.out.hc1 H.out.hm1 H.out.hc2 H.out.hm2 _ (H.out.rd1.keep (by repeat' (first | (with_reducible exact Below.refl _ _) | (with_reducible assumption) | (refine Qa (by assumption) ?_ ?_) | (with_reducible refine Qaa ?_ _) | (with_reducible refine Below.drew ?_) | (with_reducible refine Below.alloc ?_ ?_ _) | (with_reducible refine Below.setCell ?_ ?_ _) | go_size)) (Nat.le_refl _)) (H.out.rd2.keep (by repeat' (first | (with_reducible exact Below.refl _ _) | (with_reducible assumption) | (refine Qa (by assumption) ?_ ?_) | (with_reducible refine Qaa ?_ _) | (with_reducible refine Below.drew ?_) | (with_reducible refine Below.alloc ?_ ?_ _) | (with_reducible refine Below.setCell ?_ ?_ _) | go_size)) (Nat.le_refl _))).mono ?_);rintro e w' ⟨rfl,rfl⟩) | (go_at_call 40;(with_reducible refine (ContainsFuncR_is _ w.heap.size EG.out _ (rowBad_pred w.heap.size zs A2 c2 _ w.heap.size (by simp [go_sem])) HA.out vs A3 c3 H.out.hc3 H.out.hm3 (H.out.rd3.keep (by repeat' (first | (with_reducible exact Below.refl _ _) | (with_reducible assumption) | (refine Qa (by assumption) ?_ ?_) | (with_reducible refine Qaa ?_ _) | (with_reducible refine Below.drew ?_) | (with_reducible refine Below.alloc ?_ ?_ _) | (with_reducible refine Below.setCell ?_ ?_ _) | go_size)) (Nat.le_refl _))).mono ?_);rintro e w' ⟨rfl,rfl⟩))
      go_ret
      refine ⟨rfl,?_⟩
      repeat' (first | (with_reducible exact Below.refl _ _) | (with_reducible assumption) | (refine Qa (by assumption) ?_ ?_) | (with_reducible refine Qaa ?_ _) | (with_reducible refine Below.drew ?_) | (with_reducible refine Below.alloc ?_ ?_ _) | (with_reducible refine Below.setCell ?_ ?_ _) | go_size)
   ·have e:r=false:=by rw [←hr,Qav];simp [hl]
    subst e
    have e1:(((rs.length:Int) == (xs.length:Int))=false):=by simp;omega
    have HL:=Lib.hid hl
    clear hr hg hl
    go_enter Tryz.func14,Tryz.ntmps14
    go_wp2_with (go_at_call 39;(with_reducible refine (isGrid_is HG.out A1 c1 A2 c2 H.out.hc1 H.out.hm1 H.out.hc2 H.out.hm2 _ (H.out.rd1.keep (by repeat' (first | (with_reducible exact Below.refl _ _) | (with_reducible assumption) | (refine Qa (by assumption) ?_ ?_) | (with_reducible refine Qaa ?_ _) | (with_reducible refine Below.drew ?_) | (with_reducible refine Below.alloc ?_ ?_ _) | (with_reducible refine Below.setCell ?_ ?_ _) | go_size)) (Nat.le_refl _)) (H.out.rd2.keep (by repeat' (first | (with_reducible exact Below.refl _ _) | (with_reducible assumption) | (refine Qa (by assumption) ?_ ?_) | (with_reducible refine Qaa ?_ _) | (with_reducible refine Below.drew ?_) | (with_reducible refine Below.alloc ?_ ?_ _) | (with_reducible refine Below.setCell ?_ ?_ _) | go_size)) (Nat.le_refl _))).mono ?_);rintro e w' ⟨rfl,rfl⟩)
    go_ret
    refine ⟨rfl,?_⟩
    repeat' (first | (with_reducible exact Below.refl _ _) | (with_reducible assumption) | (refine Qa (by assumption) ?_ ?_) | (with_reducible refine Qaa ?_ _) | (with_reducible refine Below.drew ?_) | (with_reducible refine Below.alloc ?_ ?_ _) | (with_reducible refine Below.setCell ?_ ?_ _) | go_size)
end Go.Proofs.YtdlmdaononclgaaGreatDoor
namespace Go.Proofs.YtdlmdaononclgaaGreatDoor
open Go.RowKit
set_option linter.unusedVariables false
set_option linter.unusedSimpArgs false
def YieldsE {α:Type} (F:Fence) (n:Nat) (P:Program) (g:Nat) (lb:Array Value) (E:α→World→Array Value→Prop) (ys:List α) (H:(Nat→Prop)→World→Prop):Prop:=
 ∀ (l:Nat) (J Jx:Nat→(Nat→Prop)→World→Prop) (Y:Nat→Prop) (W:World),
  (∀ i Y A B,J i Y A→Keep W.heap.size Y A B→J i Y B)→(∀ i Y A B,Jx i Y A→Keep W.heap.size Y A B→Jx i Y B)→
  (∀ i x Y A vs,ys[i]? =some x→J i Y A→(∀ k,Y k→k < A.heap.size)→E x A vs→YieldAt F (n - 1) P l vs A fun e B=>
    (e= .returned (.bool true)∧∃ Y',J (i+1) Y' B∧Round (orL Y l) (orL Y' l) A B)∨(e= .returned (.bool false)∧∃ Y',Jx (i+1) Y' B))→
  (∀ k,Y k→k < W.heap.size)→l < W.heap.size→H (orL Y l) W→J 0 Y W→
  CallsIn F n P g (#[.func (.yield l) #[] #[]] ++ lb) W fun e W'=>(∃ v,e= .returned v)∧((∃ Y',J ys.length Y' W')∨(∃ i Y',Jx i Y' W'))
variable {F:Fence} {n:Nat} {P:Program}
theorem opIn_of_op {ops:Array Oper} {Q:Exit→Act→World→Prop} (hQ: ¬ LetsOut Q) {i:Nat} {K:Act→World→Prop} {a:Act} {w:World}
   (h:wpOp P ops Q i K a w):wpOpIn Fence.wide n P ops Q i K a w:=by
 unfold wpOp at h
 unfold wpOpIn
 cases ho:ops[i]? with
 | none=>simp only [ho] at h ⊢;exact h
 | some o=>
   simp only [ho] at h ⊢
   by_cases hw:Region.wanted o (yielded ops a.tmps)=true
   · simp only [hw,if_true] at h ⊢
     rcases h with h | h
     ·refine ⟨fun _ _=>trivial,?_⟩
      unfold Oper.wp at h
      show o.uponIn Fence.wide n P a K Q ((execOp a.eval o).run P w)
      generalize (execOp a.eval o).run P w=r at *
      cases r with
      | ok x w'=>
        cases x <;> simp only [Oper.upon,Oper.uponIn] at h ⊢
        case enter f args=>exact ⟨fun h0=>absurd h0 (by simp [Fence.wide]),callsIn_wide.2 h⟩
        case row row args=>
         refine ⟨fun h0=>absurd h0 (by simp [Fence.wide]),fun c cs _=>?_⟩
         obtain ⟨v,w2,r,s⟩:=h c cs
         exact ⟨v,w2,r,stepsIn_wide.2 s⟩
        all_goals exact h
      | halt x w'=>cases x <;> simp only [Oper.upon,Oper.uponIn] at h ⊢ <;> exact h
     ·exact absurd h.2 hQ
   · simp only [hw,if_false,Bool.false_eq_true] at h ⊢
     exact ⟨fun _ _=>trivial,h⟩
theorem anyIn_of_any {md:Region.Mode} {ops:Array Oper} {Q:Exit→Act→World→Prop} (hQ: ¬ LetsOut Q):∀ (fuel:Nat) (listed:Array Bool) (a:Act) (w:World),
   wpAny P md ops Q fuel listed a w→wpAnyIn Fence.wide n P md ops Q fuel listed a w
 | 0,_,_,_,h=>h
 | fuel+1,listed,a,w,h=>⟨h.1,fun i hi=>wpOpIn_mono (fun a w=>anyIn_of_any hQ fuel _ a w) (opIn_of_op hQ (h.2 i hi))⟩
theorem region_tail_round {id:Nat} {Q:Exit→Act→World→Prop} {a:Act} {w:World} {l:List Oper} (L:Nat) (k:Nat) (hm:P.follows .mixedOrders=true) (hB:Region.lexTailB .any l.toArray k=true) (hd:noDefer l=true)
  (h:∀ K:Act→World→Prop,(∀ a w,Q .normal a w→K a w)→wpStill P l.toArray {w with drawn:=w.drawn+1} (fun a'=>wpList P l.toArray (fun e a w=>e= .normal∧K a w) (l.drop k) a' {w with drawn:=w.drawn+1}) (l.take k) a):
  (Code.region id l.toArray true).wpIn (Fence.wide.inRound L) n P Q a w:=by
 have h:=h (Q .normal) (fun _ _ h=>h)
 simp only [Region.lexTailB,Bool.and_eq_true,decide_eq_true_eq] at hB
 obtain ⟨⟨⟨⟨hsel,hn⟩,hs⟩,hc⟩,hlex⟩:=hB
 have hn':k < l.length:=by simpa using hn
 have htl:(l.take k).length=k:=by simp;omega
 have hdl:(l.drop k).length=l.toArray.size - k:=by simp
 have inv0:HeadInv .any l.toArray k (Array.replicate l.toArray.size false):=
  ⟨by simp,fun j oj _ hl=>(by rw [getD_replicate_false] at hl;cases hl),fun t _ ht=>getD_in (by simpa using ht) (getD_replicate_false _ _)⟩
 have H:=wpAnyL_lex (md:=.any) (g:=l.toArray.size - k) hsel hs hc hn (l.take k) 0 _ a (fun j hj=>by
  have hj':j < k:=by rw [htl] at hj;exact hj
  simp [hj']) (by simpa using htl) inv0 (by rw [htl];exact hlex) h
 have:=wpAny_of_head (Q':=fun e a w=>e= .normal∧Q .normal a w) (g:=l.toArray.size - k) (fun listed a' hL=>by
  have:=wpAny_of_seq (md:=.any) (Q':=fun e a w=>e= .normal∧Q .normal a w) (l.drop k) k listed a' {w with drawn:=w.drawn+1} (fun j=>by simp [List.getElem?_drop]) (by rw [hdl];exact hL.1) hL.2
  rwa [hdl] at this) _ _ _ H
 rw [htl,show k+(l.toArray.size - k)=l.toArray.size by omega] at this
 have hno: ¬ LetsOut (fun e a w=>e=Exit.normal∧Q .normal a w):=fun ⟨_,_,h,_⟩=>by cases h
 have h2:=Qdk L rfl (by simpa using hd) _ _ _ _ (anyIn_of_any (n:=n) hno _ _ _ _ this)
 exact wpIn_mono (wpIn_region_any hm h2) (fun e a w h=>by obtain ⟨rfl,h⟩:=h;exact h)
theorem rangeE {α:Type} {g:Operand} {ps:Array Tmp} {assign body:Code} {Q:Exit→Act→World→Prop} {a:Act} {w:World}
   (hro:F.round=none) (h1:1≤n) {gf:Nat} {lb:Array Value} (hg:a.eval g= .func (.func gf) #[] lb) (hFg:F.fn gf) (eg:∀ args w,(callFunc gf args).run P w= .ok (.enter gf args) w)
   {E:α→World→Array Value→Prop} {ys:List α} {H:(Nat→Prop)→World→Prop} (hseq:YieldsE F (n - 1) P gf lb E ys H) (hps:∀ x W vs,E x W vs→vs.size=ps.size)
   (I:Nat→(Nat→Prop)→World→Prop) (Ix:Code→Nat→(Nat→Prop)→World→Prop) (Y0:Nat→Prop) (hY0:∀ k,Y0 k→k < w.heap.size)
   (hI:∀ i Y A B,I i Y A→Keep w.heap.size Y A B→I i Y B) (hIx:∀ c i Y A B,Ix c i Y A→Keep w.heap.size Y A B→Ix c i Y B)
   (h0:I 0 Y0 w) (hH:∀ W Z,Below w.heap.size w W→(∀ k,Z k→Y0 k∨w.heap.size≤k)→H Z W)
   (Ax:α→Act→World→Prop) (hAx:∀ x a' A B,Ax x a' A→(∀ k,k < A.heap.size→(∃ c e f,A.heap[k]? =some (.cells c e f))→B.heap[k]? =A.heap[k]?)→Ax x a' B)
   (hassign:∀ (l i:Nat) (x:α) (Y:Nat→Prop) (W:World) (vs:Array Value) (K:Act→World→Prop),ys[i]? =some x→I i Y W→(∀ k,Y k→k < W.heap.size)→E x W vs→
     (∀ a' W',Below W.heap.size W W'→Ax x a' W'→K a' W')→
     assign.wpIn (F.inRound l) (n - 1 - 1) P (Exit.then K (fun _ _ _=>False)) {tmps:=(ps.zip vs).foldl (fun t (p,v)=>t.setIfInBounds p v) a.tmps,defers:=[]} W)
   (hbody:∀ (l i:Nat) (x:α) (a':Act) (Y:Nat→Prop) (W:World),w.heap.size < l→(∃ r,W.heap[l]? =some (.loop r))→ys[i]? =some x→I i Y W→(∀ k,Y k→k < W.heap.size)→Ax x a' W→
     body.wpIn (F.inRound l) (n - 1 - 1) P (bodyY I (fun _ _ _=>False) Ix i Y W) a' W)
   (hdone:∀ (Y:Nat→Prop) (W:World),I ys.length Y W→W.heap[w.heap.size]? =some (.deferred (some []))→Q .normal {a with defers:={target:=.collected w.heap.size,args:= #[]} :: a.defers} W)
   (hstop:∀ (c:Code) (i:Nat) (Y:Nat→Prop) (W:World),Ix c i Y W→W.heap[w.heap.size]? =some (.deferred (some []))→c.wpIn F n P Q {a with defers:={target:=.collected w.heap.size,args:= #[]} :: a.defers} W):
   (Code.rangeFunc g ps assign body).wpIn F n P Q a w:=by
 refine wpIn_rangeFunc ?_
 intro fn hfn
 rw [hro]
 obtain ⟨rec,hrec⟩:∃ rec:LoopState→Option Code→Loop,rec=fun st pe=>{state:=st,pending:=pe,fn,tmps:=a.tmps,params:=ps,assign,body,defers:=w.heap.size}:=⟨_,rfl⟩
 obtain ⟨W1,hW1⟩:∃ W1,(w.alloc (.deferred (some []))).alloc (.loop (rec .ready none))=W1:=⟨_,rfl⟩
 have hL1:W1.heap[w.heap.size+1]? =some (.loop (rec .ready none)):=by
   rw [←hW1];have:=World.alloc_heap_new (w.alloc (.deferred (some []))) (.loop (rec .ready none));rwa [World.size_alloc] at this
 have hK1:W1.heap[w.heap.size]? =some (.deferred (some [])):=by
   rw [←hW1];exact (Below.heap_alloc _ _ _ (by simp)).trans (World.alloc_heap_new w _)
 have hz1:W1.heap.size=w.heap.size+2:=by rw [←hW1];simp
 have hb1:Below w.heap.size w W1:=by
   rw [←hW1];exact (((Below.refl _ w).alloc (Nat.le_refl _) _).alloc (by simp) _)
 have hI1:I 0 Y0 W1:=hI _ _ _ _ h0 (Keep.of_below hb1)
 refine ⟨w.heap.size+1,[{target:=.collected w.heap.size,args:= #[]}],W1,{target:=.fn (.func gf) lb,args:= #[.func (.yield (w.heap.size+1)) #[] #[]]},W1,gf,
   #[.func (.yield (w.heap.size+1)) #[] #[]] ++ lb,W1,?_,?_,?_,?_,fun _=>h1,?_⟩
 · rw [←hW1,hrec];exact run_enterLoop_outer _ _ _ _ _
 · simp only [resolve,hg]
   simp [go_sem]
 · intro f' hf';simp [Target.leads] at hf';subst hf';exact hFg
 · simp [invoke,go_sem,eg]
 ·
   have keepW:∀ {Y:Nat→Prop} {A B:World},Keep W1.heap.size Y A B→Keep w.heap.size Y A B:=fun h=>h.less (by omega)
   refine (hseq (w.heap.size+1)
     (fun i Y W=>I i Y W∧(¬ Y w.heap.size∧¬ Y (w.heap.size+1))∧W.heap[w.heap.size+1]? =some (.loop (rec .ready none))∧W.heap[w.heap.size]? =some (.deferred (some [])))
     (fun i Y W=>∃ c,Ix c i Y W∧(¬ Y w.heap.size∧¬ Y (w.heap.size+1))∧W.heap[w.heap.size+1]? =some (.loop (rec .done (some c)))∧W.heap[w.heap.size]? =some (.deferred (some [])))
     Y0 W1
     (fun i Y A B hs hk=>⟨hI _ _ _ _ hs.1 (keepW hk),hs.2.1,(hk.block _ (Array.getElem?_eq_some_iff.1 hs.2.2.1).1 (.inl (by omega))).trans hs.2.2.1,(hk.block _ (Array.getElem?_eq_some_iff.1 hs.2.2.2).1 (.inl (by omega))).trans hs.2.2.2⟩)
     (fun i Y A B hs hk=>by
       obtain ⟨c,hc,hy,hl,hd⟩:=hs
       exact ⟨c,hIx _ _ _ _ _ hc (keepW hk),hy,(hk.block _ (Array.getElem?_eq_some_iff.1 hl).1 (.inl (by omega))).trans hl,(hk.block _ (Array.getElem?_eq_some_iff.1 hd).1 (.inl (by omega))).trans hd⟩)
     ?_ (fun k hk=>by have:=hY0 k hk;omega) (by omega) (hH W1 _ hb1 (fun k hk=>by rcases hk with h | h;exact .inl h;right;omega)) ⟨hI1,⟨fun h=>by have:=hY0 _ h;omega,fun h=>by have:=hY0 _ h;omega⟩,hL1,hK1⟩).mono ?_
   ·
     rintro i x Y W vs hx ⟨hi,⟨hy0,hy1⟩,hl,hk⟩ hlt0 hE
     have hlt:w.heap.size+1 < W.heap.size:=(Array.getElem?_eq_some_iff.1 hl).1
     have hy:=run_yield (P:=P) (args:=vs) hl (by rw [hrec];exact hps x W vs hE)
     rw [hrec] at hy
     refine ⟨fn,_,assign,body,hy,roundIn_of_wpIn hfn (hassign _ i x Y W vs _ hx hi hlt0 hE ?_)⟩
     clear hy
     intro a' Wa hba hax
     have hla:Wa.heap[w.heap.size+1]? =some (.loop (rec .ready none)):=(hba.block _ hlt).trans hl
     have hka:Wa.heap[w.heap.size]? =some (.deferred (some [])):=(hba.block _ (by omega)).trans hk
     have hlta:w.heap.size+1 < Wa.heap.size:=Nat.lt_of_lt_of_le hlt hba.size
     refine ⟨_,run_beginRound hla (by rw [hrec]),?_⟩
     obtain ⟨Wb,hWb⟩:∃ Wb,Wa.putObj (w.heap.size+1) (.loop {rec .ready none with state:=.busy})=Wb:=⟨_,rfl⟩
     have hl2:Wb.heap[w.heap.size+1]? =some (.loop {rec .ready none with state:=.busy}):=by rw [←hWb];exact World.putObj_heap_same hlta
     have hk2:Wb.heap[w.heap.size]? =some (.deferred (some [])):=by rw [←hWb];exact (World.putObj_heap_other (by omega)).trans hka
     have hsb:Wb.heap.size=Wa.heap.size:=by rw [←hWb];simp
     have kb:Keep w.heap.size Y W Wb:=by rw [←hWb];exact (Keep.of_below hba).putObj (by omega) hy1 _
     have hib:I i Y Wb:=hI _ _ _ _ hi kb
     have haxb:Ax x a' Wb:=hAx _ _ _ _ hax (fun k hk ⟨c,e,f,hc⟩=>by rw [←hWb];exact World.putObj_heap_other (fun e'=>by subst e';rw [hla] at hc;cases hc))
     have hltb:∀ k,Y k→k < Wb.heap.size:=fun k hk=>by have:=hlt0 k hk;have:=hba.size;omega
     rw [hWb]
     refine wpIn_mono (hbody _ i x a' Y Wb (by omega) ⟨_,hl2⟩ hx hib hltb haxb) ?_
     have fin:∀ (jump:Option Code) (Y':Nat→Prop) (W3:World),Round Y Y' Wb W3→
        (Instr.endRound (w.heap.size+1) jump).run P W3= .ok (.bool jump.isNone) (W3.putObj (w.heap.size+1) (.loop (rec (if jump.isNone then .ready else .done) jump)))∧
        (W3.putObj (w.heap.size+1) (.loop (rec (if jump.isNone then .ready else .done) jump))).heap[w.heap.size+1]? =some (.loop (rec (if jump.isNone then .ready else .done) jump))∧
        (W3.putObj (w.heap.size+1) (.loop (rec (if jump.isNone then .ready else .done) jump))).heap[w.heap.size]? =some (.deferred (some []))∧
        Keep w.heap.size Y' W3 (W3.putObj (w.heap.size+1) (.loop (rec (if jump.isNone then .ready else .done) jump)))∧(¬ Y' w.heap.size∧¬ Y' (w.heap.size+1)):=fun jump Y' W3 hr3=>by
       have hl3:=(hr3.block _ (by omega) hy1).trans hl2
       have hk3:=(hr3.block _ (by omega) hy0).trans hk2
       have o1: ¬ Y' (w.heap.size+1):=hr3.out (by omega) hy1
       have:=run_endRound (P:=P) jump hl3
       rw [hrec] at this ⊢
       exact ⟨this,World.putObj_heap_same (Array.getElem?_eq_some_iff.1 hl3).1,(World.putObj_heap_other (by omega)).trans hk3,(Keep.refl _ _ _).putObj (by omega) o1 _,hr3.out (by omega) hy0,o1⟩
     rintro e a3 W3 hp
     cases e with
     | normal=>
       obtain ⟨Y',hi3,hr3⟩:=hp
       obtain ⟨hr,hl4,hk4,hkp,ho⟩:=fin none Y' W3 hr3
       refine ⟨_,_,hr,.inl ⟨rfl,Y',⟨hI _ _ _ _ hi3 hkp,ho,hl4,hk4⟩,?_⟩⟩
       refine ⟨hr3.os.trans kb.os,hr3.tape.trans kb.tape,hr3.output.trans kb.output,?_,fun k hk hnk=>?_,fun k hk=>?_,fun k hk=>?_⟩
       ·have:=hr3.size;have:=kb.size;simp;omega
       ·have hs:=kb.size
        have hne:k≠w.heap.size+1:=fun e=>hnk (.inr e)
        have hny: ¬ Y k:=fun h=>hnk (.inl h)
        rw [World.putObj_heap_other hne,hr3.block k (by omega) hny, ←hWb,World.putObj_heap_other hne]
        exact hba.block k hk
       ·rcases hk with hk | hk
        · rcases hr3.more k hk with h | h
          ·exact .inl (.inl h)
          ·right;have:=kb.size;omega
        · exact .inl (.inr hk)
       ·rcases hk with hk | hk
        · have:=hr3.lt k hk;simpa using this
        · have:=hr3.size;have:=kb.size;subst hk;simp;omega
     | ret=>
       obtain ⟨Y',hi3,hr3⟩:=hp
       obtain ⟨hr,hl4,hk4,hkp,ho⟩:=fin (some .ret) Y' W3 hr3
       exact ⟨_,_,hr,.inr ⟨rfl,Y',.ret,hIx _ _ _ _ _ hi3 hkp,ho,hl4,hk4⟩⟩
     | exit id=>
       obtain ⟨Y',hi3,hr3⟩:=hp
       obtain ⟨hr,hl4,hk4,hkp,ho⟩:=fin (some (.exit id)) Y' W3 hr3
       exact ⟨_,_,hr,.inr ⟨rfl,Y',.exit id,hIx _ _ _ _ _ hi3 hkp,ho,hl4,hk4⟩⟩
     | goto t=>
       obtain ⟨Y',hi3,hr3⟩:=hp
       obtain ⟨hr,hl4,hk4,hkp,ho⟩:=fin (some (.goto t)) Y' W3 hr3
       exact ⟨_,_,hr,.inr ⟨rfl,Y',.goto t,hIx _ _ _ _ _ hi3 hkp,ho,hl4,hk4⟩⟩
     | panic ch=>exact hp.elim
     | outgrown=>exact hp.elim
   ·
     rintro e W2 ⟨⟨v,rfl⟩,(⟨Y',hi,hy,hl,hk⟩ | ⟨i,Y',c,hi,hy,hl,hk⟩)⟩
     · exact ⟨none,_,by have:=run_endLoop (P:=P) hl (by rw [hrec];simp);rw [hrec] at this;exact this,hdone Y' _ (hI _ _ _ _ hi ((Keep.refl _ _ _).putObj (by omega) hy.2 _)) ((World.putObj_heap_other (by omega)).trans hk)⟩
     · exact ⟨some c,_,by have:=run_endLoop (P:=P) hl (by rw [hrec];simp);rw [hrec] at this;exact this,hstop c i Y' _ (hIx _ _ _ _ _ hi ((Keep.refl _ _ _).putObj (by omega) hy.2 _)) ((World.putObj_heap_other (by omega)).trans hk)⟩
end Go.Proofs.YtdlmdaononclgaaGreatDoor
namespace Go.Proofs.YtdlmdaononclgaaGreatDoor
open Go.RowKit
set_option linter.unusedVariables false
set_option linter.unusedSimpArgs false
attribute [local go_sem] Oper.semAt_some
def pairsL (n m:Nat):List (Nat × Nat):=(List.range (n * m)).map fun t=>(t / m,t % m)
theorem Qcj (n m:Nat):(pairsL n m).length=n * m:=by simp [pairsL]
theorem pairsL_get {n m i k:Nat} (hi:i < n) (hk:k < m):(pairsL n m)[i * m+k]? =some (i,k):=by
 have h:i * m+k < n * m:=by
  have:=Nat.mul_le_mul_right m (by omega:i+1≤n)
  rw [Nat.succ_mul] at this
  omega
 have e1:(i * m+k) / m=i:=by rw [Nat.mul_comm,Nat.mul_add_div (by omega),Nat.div_eq_of_lt hk];rfl
 have e2:(i * m+k) % m=k:=by rw [Nat.mul_comm,Nat.mul_add_mod,Nat.mod_eq_of_lt hk]
 simp [pairsL,List.getElem?_range h,e1,e2]
theorem pairsL_at {n m t:Nat} {x:Nat × Nat} (h:(pairsL n m)[t]? =some x):x.1 < n∧x.2 < m∧t=x.1 * m+x.2:=by
 have hl:=(List.getElem?_eq_some_iff.1 h).1
 rw [Qcj] at hl
 simp only [pairsL,List.getElem?_map,List.getElem?_range hl,Option.map_some,Option.some.injEq] at h
 subst h
 have hm:0 < m:=Nat.pos_of_ne_zero (fun e=>by subst e;simp at hl)
 exact ⟨Nat.div_lt_of_lt_mul (by rw [Nat.mul_comm];exact hl),Nat.mod_lt _ hm,by rw [Nat.mul_comm];exact (Nat.div_add_mod t m).symm⟩
def PE (xs zs:List Int) (x:Nat × Nat) (W:World) (vs:Array Value):Prop:=
 ∃ p q,vs= #[.agg #[.int .i64 x.1,.int .i64 x.2],.func (.func 90) #[] #[.pointer (some ⟨p,0,none⟩),.pointer (some ⟨q,0,none⟩)]]∧
  W.cell? ⟨p,0,none⟩=some (.int .i64 (ix xs x.1))∧W.cell? ⟨q,0,none⟩=some (.int .i64 (ix zs x.2))
theorem pairs_any (v1 v2:Value) (A:Option Addr) (n c:Nat) (A2:Option Addr) (n2 c2:Nat) (w:World) (h1:v1= .slice A n c) (h2:v2= .slice A2 n2 c2):
  Calls Tryz.prog 77 #[v1,v2] w fun e w'=>e= .returned (.func (.func 89) #[] #[.pointer (some ⟨w.heap.size,0,none⟩),.pointer (some ⟨w.heap.size+1,0,none⟩)])∧w'=(w.alloc (.cells #[v1] 22)).alloc (.cells #[v2] 22):=by
 have hmf:∀ (fn:Fn) (first cap:Array Value) (w:World),(Instr.makeFunc fn first cap).run Tryz.prog w= .ok (.func fn first cap) w:=fun _ _ _ _=>rfl
 subst h1;subst h2
 go_enter Tryz.func77,Tryz.ntmps77
 go_wp2
 go_ret
 exact ⟨rfl,rfl⟩
theorem both_any' (p q:Nat) (x y:Int) (w:World) (hx:w.cell? ⟨p,0,none⟩=some (.int .i64 x)) (hy:w.cell? ⟨q,0,none⟩=some (.int .i64 y)):
  Calls Tryz.prog 90 #[.pointer (some ⟨p,0,none⟩),.pointer (some ⟨q,0,none⟩)] w fun e w'=>e= .returned (.tuple #[.int .i64 x,.int .i64 y])∧∃ k,w'=w.drewN k:=by
 go_enter Tryz.func90,Tryz.ntmps90
 go_wp2
 go_quiet (fail)
 go_wp2
 go_returns
 exact ⟨rfl,_,rfl⟩
structure PI (J:Nat→(Nat→Prop)→World→Prop) (W:World) (ks:Nat→Prop) (t:Nat) (Y:Nat→Prop) (wr:World):Prop where
 j:J t Y wr
 lt:∀ k,Y k→k < wr.heap.size
 no:∀ k,ks k→¬ Y k∧wr.heap[k]? =W.heap[k]?
 size:W.heap.size≤wr.heap.size
theorem PI.keep {J:Nat→(Nat→Prop)→World→Prop} {W:World} {ks:Nat→Prop} {t:Nat} {Y:Nat→Prop} {A B:World} (h:PI J W ks t Y A) (hJ:∀ i Y A B,J i Y A→Keep W.heap.size Y A B→J i Y B) (hks:∀ k,ks k→k < W.heap.size)
  (hk:Keep W.heap.size Y A B):PI J W ks t Y B:=
 ⟨hJ _ _ _ _ h.j hk,fun k hy=>Nat.lt_of_lt_of_le (h.lt k hy) hk.size,fun k hy=>⟨(h.no k hy).1,(hk.block k (Nat.lt_of_lt_of_le (hks k hy) h.size) (.inl (hks k hy))).trans (h.no k hy).2⟩,Nat.le_trans h.size hk.size⟩
theorem PI.next {J:Nat→(Nat→Prop)→World→Prop} {W:World} {ks:Nat→Prop} {t l:Nat} {Y Y':Nat→Prop} {A B:World} (h:PI J W ks t Y A) (hks:∀ k,ks k→k < W.heap.size∧k≠l)
  (hj:J (t+1) Y' B) (hr:Round (orL Y l) (orL Y' l) A B):PI J W ks (t+1) Y' B:=by
 refine ⟨hj,fun k hy=>hr.lt k (.inl hy),fun k hk=>?_,Nat.le_trans h.size hr.size⟩
 have hlt:=Nat.lt_of_lt_of_le (hks k hk).1 h.size
 have hn: ¬ orL Y l k:=fun e=>e.elim (h.no k hk).1 (hks k hk).2
 exact ⟨fun e=>(hr.out hlt hn) (.inl e),(hr.block k hlt hn).trans (h.no k hk).2⟩
set_option maxHeartbeats 2000000 in
set_option maxRecDepth 4000 in
theorem pairs1_yields (n:Nat) (qa qb:Nat) (xs zs:List Int) (A:Option Addr) (c:Nat) (A2:Option Addr) (c2:Nat) (hc:xs.length≤c) (hm:c≤9223372036854775807) (hc2:zs.length≤c2) (hm2:c2≤9223372036854775807) (hx9:xs.length≤1000000) (hz9:zs.length≤1000000):
  YieldsE Fence.wide n Tryz.prog 89 #[.pointer (some ⟨qa,0,none⟩),.pointer (some ⟨qb,0,none⟩)] (PE xs zs) (pairsL xs.length zs.length) (fun Y W=>HG qa xs A c Y W∧HG qb zs A2 c2 Y W):=by
 intro l J Jx Y W hJ hJx hY hYlt hlW ⟨hHa,hHb⟩ h0
 obtain ⟨hboxa,hqa,hqaY,b1,off1,rfl,hb1,hb1Y,hcell1⟩:=hHa
 obtain ⟨hboxb,hqb,hqbY,b2,off2,rfl,hb2,hb2Y,hcell2⟩:=hHb
 have hmf:∀ (fn:Fn) (first cap:Array Value) (w:World),(Instr.makeFunc fn first cap).run Tryz.prog w= .ok (.func fn first cap) w:=fun _ _ _ _=>rfl
 have hks:∀ k,(k=qa∨k=qb∨k=b1∨k=b2)→k < W.heap.size∧k≠l:=by
  rintro k (rfl | rfl | rfl | rfl)
  · exact ⟨hqa,fun e=>hqaY (.inr e)⟩
  · exact ⟨hqb,fun e=>hqbY (.inr e)⟩
  · exact ⟨hb1,fun e=>hb1Y (.inr e)⟩
  · exact ⟨hb2,fun e=>hb2Y (.inr e)⟩
 have h0':PI J W (fun k=>k=qa∨k=qb∨k=b1∨k=b2) 0 Y W:=⟨h0,hYlt,fun k hk=>⟨fun hy=>by rcases hk with rfl | rfl | rfl | rfl;exact hqaY (.inl hy);exact hqbY (.inl hy);exact hb1Y (.inl hy);exact hb2Y (.inl hy),rfl⟩,Nat.le_refl _⟩
 have HKS:=Lib.hid hks
 have H0:=Lib.hid h0'
 have HC1:=Lib.hid hcell1
 have HC2:=Lib.hid hcell2
 have HJ:=Lib.hid hJ
 have HY:=Lib.hid hY
 have HBB:=Lib.hid hboxb
 clear hks h0' hcell1 hcell2 hJ hJx hY h0 hYlt hqaY hqbY hb1Y hb2Y hboxb
 refine callsIn_of_wp Tryz.func89 rfl trivial ?_ rfl
 simp only [Tryz.ntmps89,List.size_toArray,List.length_cons,List.length_nil,Nat.reduceAdd,Nat.reduceSub,Array.replicate_succ,Array.replicate_zero,List.push_toArray,List.append_toArray,List.nil_append,List.cons_append]
 gi_wp2
 gi_loopw [10] (fun v wr=>∃ (i:Nat) (Y':Nat→Prop),v= .int .i64 i∧i≤xs.length∧PI J W (fun k=>k=qa∨k=qb∨k=b1∨k=b2) (i * zs.length) Y' wr)
  (fun v _=>xs.length - (intOf v).toNat)
 case atStart=>exact ⟨0,Y,rfl,by omega,by rw [Nat.zero_mul];exact H0.out⟩
 case round=>
  obtain ⟨i,Yo,rfl,hi9,hpo⟩:=hrel
  by_cases hi:i < xs.length
  · have y0:wr.cell? ⟨b1,off1+i,none⟩=some (.int .i64 (ix xs i)):=(World.cell?_of_block (hpo.no b1 (.inr (.inr (.inl rfl)))).2).trans (HC1.out i hi)
    have y1:wr.cell? ⟨qb,0,none⟩=some (.slice (some ⟨b2,off2,none⟩) zs.length c2):=(World.cell?_of_block (hpo.no qb (.inr (.inl rfl))).2).trans HBB.out
    have hws:=hpo.size
    have hqb':qb < wr.heap.size:=by omega
    have hb2':b2 < wr.heap.size:=by omega
    have HPO:=Lib.hid hpo
    clear hpo
    obtain ⟨wo,rfl⟩:∃ wo:World,wo=wr:=⟨_,rfl⟩
    gi_wp2
    gi_loopw [17] (fun v wr=>∃ (k:Nat) (Y':Nat→Prop),v= .int .i64 k∧k≤zs.length∧PI J W (fun k=>k=qa∨k=qb∨k=b1∨k=b2) (i * zs.length+k) Y' wr∧¬ Y' wo.heap.size∧wo.heap.size < wr.heap.size∧wr.cell? ⟨wo.heap.size,0,none⟩=some (.int .i64 (ix xs i)))
     (fun v _=>zs.length - (intOf v).toNat)
    case atStart=>
     have hk0:=HPO.out.keep HJ.out (fun k hk=>(HKS.out k hk).1) ((Keep.refl _ _ _).alloc (.cells #[Value.int IntKind.i64 (ix xs i)] 3))
     exact ⟨0,Yo,rfl,Nat.zero_le _,hk0,fun h=>by have:=HPO.out.lt _ h;omega,by simp,Qba _ _ _⟩
    case round=>
     obtain ⟨k,Yi,rfl,hk9,hpi,hyn,hlt,hcx⟩:=hrel
     by_cases hk:k < zs.length
     · have z0:wr.cell? ⟨b2,off2+k,none⟩=some (.int .i64 (ix zs k)):=(World.cell?_of_block (hpi.no b2 (.inr (.inr (.inr rfl)))).2).trans (HC2.out k hk)
       have HPI:=Lib.hid hpi
       clear hpi
       gi_wp2_with fail
       have hk1:=HPI.out.keep HJ.out (fun k hk=>(HKS.out k hk).1) ((Keep.refl _ _ _).alloc (.cells #[Value.int IntKind.i64 (ix zs k)] 3))
       have HK1:=Lib.hid hk1
       clear hk1
       obtain ⟨fn,tmps,assign,body,hy,hR⟩:=HY.out _ (i,k) Yi (wr.alloc (.cells #[Value.int IntKind.i64 (ix zs k)] 3)) _ (pairsL_get hi hk) HK1.out.j HK1.out.lt ⟨wo.heap.size,wr.heap.size,rfl,(cell_later (Below.alloc (Below.refl _ _) (Nat.le_refl _) _) hcx),Qba _ _ _⟩
       go_simp
       refine ⟨fun h=>absurd h (by simp [Fence.wide]),hR.mono ?_⟩
       rintro e W3 (⟨rfl,Y3,hj3,hr3⟩ | ⟨rfl,Y3,hjx3⟩)
       ·have hn3:=HK1.out.next HKS.out hj3 hr3
        have nlo: ¬ orL Yi l wo.heap.size:=fun h=>h.elim hyn (fun h=>by omega)
        have hl3:wo.heap.size < (wr.alloc (.cells #[Value.int IntKind.i64 (ix zs k)] 3)).heap.size:=by simp;omega
        have co:=hr3.out hl3 nlo
        have cc:=(hr3.cell (p:=⟨wo.heap.size,0,none⟩) hl3 nlo).trans (cell_later (Below.alloc (Below.refl _ _) (Nat.le_refl _) _) hcx)
        have hs3:=hr3.size
        rw [World.size_alloc] at hs3
        have hls:wo.heap.size < W3.heap.size:=by omega
        have HN3:=Lib.hid hn3
        have HCO:=Lib.hid co
        have HCC:=Lib.hid cc
        clear hn3 co cc hr3 hj3 hy hR nlo hl3
        gi_wp2
        go_roundw
        case rel=>exact ⟨k+1,Y3,by first | rfl | go_num,by omega,HN3.out,fun h=>HCO.out (.inl h),hls,HCC.out⟩
        case measure=>simp [intOf];omega
       ·gi_wp2
        refine bodyPost_ret (results_none rfl _ _ _) rfl ?_
        exact ⟨⟨_,rfl⟩,.inr ⟨_,_,hjx3⟩⟩
     · have ek:k=zs.length:=by omega
       subst ek
       have HPI:=Lib.hid hpi
       clear hpi
       gi_wp2
       go_roundw
       case rel=>exact ⟨i+1,Yi,by first | rfl | go_num,by omega,by rw [Nat.succ_mul];exact HPI.out⟩
       case measure=>simp [intOf];omega
  · have ei:i=xs.length:=by omega
    subst ei
    have HPO:=Lib.hid hpo
    clear hpo
    gi_wp2
    go_end0
    exact ⟨⟨_,rfl⟩,.inl ⟨Yo,by rw [Qcj];exact HPO.out.j⟩⟩
end Go.Proofs.YtdlmdaononclgaaGreatDoor
namespace Go.Proofs.YtdlmdaononclgaaGreatDoor
open Go.RowKit
set_option linter.unusedVariables false
set_option linter.unusedSimpArgs false
def gridT (ws us:List Int) (t:Nat):List (List Int):=(List.range ws.length).map fun i=>(List.range (min us.length (t - i * us.length))).map fun k=>IntKind.i64.wrap (ix ws i * ix us k)
def gridZ (xs zs:List Int):List (List Int):=gridT (Qab xs) (Qab zs) ((Qab xs).length * (Qab zs).length)
theorem Qbi (ws us:List Int) (t:Nat):(gridT ws us t).length=ws.length:=by simp [gridT]
theorem gridT_rx {ws us:List Int} {t i:Nat} (hi:i < ws.length):rx (gridT ws us t) i=(List.range (min us.length (t - i * us.length))).map fun k=>IntKind.i64.wrap (ix ws i * ix us k):=by
 simp [rx,gridT,List.getD,List.getElem?_range hi]
theorem gridT_zero (ws us:List Int):gridT ws us 0=List.replicate ws.length []:=by
 apply List.ext_getElem
 ·simp [gridT]
 ·intro i h1 h2
  simp [gridT]
theorem gridT_succ {ws us:List Int} {t i k:Nat} (hi:i < ws.length) (hk:k < us.length) (ht:t=i * us.length+k):
  gridT ws us (t+1)=(gridT ws us t).set i (rx (gridT ws us t) i ++ [IntKind.i64.wrap (ix ws i * ix us k)]):=by
 apply List.ext_getElem
 ·simp [gridT]
 ·intro j h1 h2
  rw [Qbi] at h1
  rw [List.getElem_set]
  by_cases e:i=j
  ·subst e
   rw [if_pos rfl,gridT_rx hi]
   simp only [gridT,List.getElem_map,List.getElem_range]
   rw [show min us.length (t+1 - i * us.length)=k+1 by omega,show min us.length (t - i * us.length)=k by omega,List.range_succ,List.map_append]
   rfl
  ·rw [if_neg e]
   simp only [gridT,List.getElem_map,List.getElem_range]
   rcases Nat.lt_or_ge j i with h | h
   ·have:=Nat.mul_le_mul_right us.length (by omega:j+1≤i)
    rw [Nat.succ_mul] at this
    rw [show min us.length (t+1 - j * us.length)=us.length by omega,show min us.length (t - j * us.length)=us.length by omega]
   ·have:=Nat.mul_le_mul_right us.length (by omega:i+1≤j)
    rw [Nat.succ_mul] at this
    rw [show min us.length (t+1 - j * us.length)=0 by omega,show min us.length (t - j * us.length)=0 by omega]
theorem gridT_row_length {ws us:List Int} {t i k:Nat} (hi:i < ws.length) (hk:k < us.length) (ht:t=i * us.length+k):(rx (gridT ws us t) i).length=k:=by
 rw [gridT_rx hi];simp;omega
theorem gridT_full {ws us:List Int} {i:Nat} (hi:i < ws.length):rx (gridT ws us (ws.length * us.length)) i=(List.range us.length).map fun k=>IntKind.i64.wrap (ix ws i * ix us k):=by
 have:=Nat.mul_le_mul_right us.length (by omega:i+1≤ws.length)
 rw [Nat.succ_mul] at this
 rw [gridT_rx hi,show min us.length (ws.length * us.length - i * us.length)=us.length by omega]
theorem nils_made (n:Nat):madeCells #[Value.slice none 0 0] n=(List.replicate n (Value.slice none 0 0)).toArray:=by
 apply Array.ext
 ·simp [size_madeCells]
 ·intro i h1 h2
  simp [madeCells,Nat.mod_one]
theorem infoInts:(Tryz.prog.info? 22).map (fun i=>(i.zero,i.size,i.bytes))=some (some (.slice none 0 0),1,24):=by kernel_rfl
theorem make_rows (n:Nat) (hn:n≤1000000) (W:World):(Instr.makeSlice 24 (.int .i64 (n:Int)) (.int .i64 (n:Int))).run Tryz.prog W= .ok (.slice (some ⟨W.heap.size,0,none⟩) n n) (W.alloc (.cells (List.replicate n (Value.slice none 0 0)).toArray 22)):=by
 obtain ⟨i0,hi,hz0,hz1,hz2⟩:=info_parts infoInts
 have:=run_make (P:=Tryz.prog) W 24 22 i0 (.slice none 0 0) Tryz.underlying24 hi hz0 .i64 .i64 (n:Int) (n:Int) (by omega) (by omega) (by rw [hz2];omega) (by omega)
 rw [this,hz1]
 simp only [Int.toNat_natCast,Value.cells,Nat.mul_one,nils_made]
theorem OkP.wide {xs:List Int} (h:OkP 7 15000 xs):OkP 9 100000 xs:=⟨h.two,by have:=h.many;omega,h.low,by have:=h.high;omega,h.inc⟩
end Go.Proofs.YtdlmdaononclgaaGreatDoor
namespace Go.Proofs.YtdlmdaononclgaaGreatDoor
open Go.RowKit
set_option linter.unusedVariables false
set_option linter.unusedSimpArgs false
section
variable {P:Program} {ops:Array Oper} {Q:Exit→Act→World→Prop} {md:Region.Mode} {S:World→Prop} {last:Nat}
def wpAnyT (P:Program) (md:Region.Mode) (ops:Array Oper) (Q:Exit→Act→World→Prop) (S:World→Prop) (last:Nat):Nat→Array Bool→Act→World→Prop
 | 0,listed,a,w=>Region.ready md ops listed=[]∧Q .normal a w
 | fuel+1,listed,a,w=>
   (Region.ready md ops listed=[]→Q .normal a w)∧
   ∀ i∈Region.ready md ops listed,wpOp P ops Q i (fun a' w'=>(i≠last→S w')∧wpAnyT P md ops Q S last fuel (listed.setIfInBounds i true) a' w') a w
theorem wpAny_of_T:∀ (fuel:Nat) (listed:Array Bool) (a:Act) (w:World),wpAnyT P md ops Q S last fuel listed a w→wpAny P md ops Q fuel listed a w
 | 0,_,_,_,h=>h
 | fuel+1,_,_,_,h=>⟨h.1,fun i hi=>wpOp_mono (fun a' w' h'=>wpAny_of_T fuel _ a' w' h'.2) (h.2 i hi)⟩
theorem wpAnyT_first {i:Nat} {oi:Oper} {v:Value} (hi:ops[i]? =some oi) (hsel:∀ (j:Nat) (o:Oper) cs b,ops[j]? =some o→o.op≠.select cs b)
   (hQ:∀ c a w,Q (.panic c) (a.put oi.dst v) w→Q (.panic c) a w) (hil:i≠last) (hwait:Region.waitsFor md ops last i=true):
   ∀ (fuel:Nat) (listed:Array Bool) (a:Act) (w:World),
     (∀ j oj,ops[j]? =some oj→j≠i→listed.getD j true=false→(∀ e∈oj.after,Region.binds md e=true→e.on≠i)→oi.apart ops oj=true)→
     i∈Region.ready md ops listed→YieldsIf P ops S oi v a→S w→
     wpAnyT P md ops Q S last fuel (listed.setIfInBounds i true) (a.put oi.dst v) w→wpAnyT P md ops Q S last (fuel+1) listed a w:=by
 intro fuel
 induction fuel with
 | zero=>
   intro listed a w _ hr hy hS H
   refine ⟨fun h=>(by rw [h] at hr;cases hr),fun j hj=>?_⟩
   by_cases hji:j=i
   · subst hji;exact hy.wpOp hi hS ⟨fun _=>hS,H⟩
   · have:=ready_mono hj hji
     rw [H.1] at this
     cases this
 | succ fuel ih=>
   intro listed a w hfree hr hy hS H
   refine ⟨fun h=>(by rw [h] at hr;cases hr),fun j hj=>?_⟩
   by_cases hji:j=i
   · subst hji;exact hy.wpOp hi hS ⟨fun _=>hS,H⟩
   · have h1:=H.2 j (ready_mono hj hji)
     obtain ⟨hjun,oj,hoj,hall⟩:=mem_ready.1 hj
     have hnot:∀ e∈oj.after,Region.binds md e=true→e.on≠i:=fun e he hb heq=>by
       have h1:=hall e he hb
       have h0:=(mem_ready.1 hr).1
       rw [heq] at h1
       rcases Nat.lt_or_ge i listed.size with h' | h'
       ·simp [h'] at h0 h1;rw [h0] at h1;cases h1
       ·simp [Array.getElem?_eq_none h'] at h1
     have hjl:j≠last:=fun e=>by
       subst e
       obtain ⟨o',ho',e,he,hb,hon⟩:=Region.waitsFor_spec hwait
       have:o'=oj:=Option.some.inj (ho'.symm.trans hoj)
       subst this
       exact hnot e he hb hon
     have h2:=wpOp_putIf hoj (hfree j oj hoj hji hjun hnot) (fun cs b=>hsel i oi cs b hi) (fun cs b=>hsel j oj cs b hoj) hQ hy h1
     have hfree':∀ k ok,ops[k]? =some ok→k≠i→(listed.setIfInBounds j true).getD k true=false→
        (∀ e∈ok.after,Region.binds md e=true→e.on≠i)→oi.apart ops ok=true:=fun k ok hk hki hun hno=>by
       refine hfree k ok hk hki ?_ hno
       by_cases hjk:j=k
       ·subst hjk;exact hjun
       ·rw [getD_set_ne true hjk] at hun;exact hun
     refine wpOp_mono (fun a' w' h3=>⟨fun _=>h3.2.1 hjl,ih (listed.setIfInBounds j true) a' w' hfree' (ready_mono hr (Ne.symm hji)) h3.1 (h3.2.1 hjl) ?_⟩) h2
     rw [Array.setIfInBounds_comm _ _ hji]
     exact h3.2.2
def wpHeld (P:Program) (ops:Array Oper) (S:World→Prop) (Q:Act→Prop):List Oper→Act→Prop
 | [],a=>Q a
 | o :: rest,a=>∃ v,YieldsIf P ops S o v a∧wpHeld P ops S Q rest (a.put o.dst v)
def wpTail (P:Program) (ops:Array Oper) (Q:Exit→Act→World→Prop) (S:World→Prop) (last:Nat):List Oper→Nat→Act→World→Prop
 | [],_,a,w=>Q .normal a w
 | o :: rest,k,a,w=>if Region.wanted o (yielded ops a.tmps) then o.wp P a w (fun a' w'=>(k≠last→S w')∧wpTail P ops Q S last rest (k+1) a' w') Q else False
theorem Qag {o:Oper} {rest:List Oper} {k:Nat} {a:Act} {w:World}
  (h:∀ K:Act→World→Prop,Hid (∀ a' w',(k≠last→S w')→wpTail P ops Q S last rest (k+1) a' w'→K a' w')→if Region.wanted o (yielded ops a.tmps) then o.wp P a w K Q else False):wpTail P ops Q S last (o :: rest) k a w:=
 h _ (Lib.hid fun _ _ h1 h2=>⟨h1,h2⟩)
theorem wpAnyT_of_tail:∀ (l:List Oper) (k:Nat) (listed:Array Bool) (a:Act) (w:World),(∀ j,l[j]? =ops[k+j]?)→
   Region.seqB md ops l.length k listed=true→wpTail P ops Q S last l k a w→wpAnyT P md ops Q S last l.length listed a w
 | [],_,_,_,_,_,hB,h=>⟨by simpa [Region.seqB] using hB,h⟩
 | o :: l,k,listed,a,w,hl,hB,h=>by
   have h0:ops[k]? =some o:=by simpa using (hl 0).symm
   simp only [List.length_cons,Region.seqB,Bool.and_eq_true,decide_eq_true_eq] at hB
   refine ⟨fun h1=>(by rw [hB.1] at h1;cases h1),fun i hi=>?_⟩
   rw [hB.1] at hi
   have hik:i=k:=by simpa using hi
   subst hik
   unfold wpTail at h
   by_cases hw:Region.wanted o (yielded ops a.tmps)=true
   ·rw [if_pos hw] at h
    unfold wpOp
    simp only [h0,hw,if_true]
    exact .inl (Oper.wp_mono (fun a' w' h'=>⟨h'.1,wpAnyT_of_tail l (i+1) _ a' w' (fun j=>by have:=hl (j+1);simpa [Nat.add_assoc,Nat.add_comm 1 j] using this) hB.2 h'.2⟩) h)
   ·rw [if_neg hw] at h
    exact h.elim
theorem wpAnyT_lex {Q':Act→World→Prop} {tl:List Oper} {k0:Nat} (hsel:Region.noSelect ops=true) (htl:∀ j,tl[j]? =ops[k0+j]?):
   ∀ (l:List Oper) (k:Nat) (listed:Array Bool) (a:Act) (w:World),(∀ j,j < l.length→l[j]? =ops[k+j]?)→k+l.length=k0→(∀ j,j < l.length→k+j≠last∧Region.waitsFor md ops last (k+j)=true)→
   Region.lexHead md ops tl.length l.length k listed=true→S w→wpHeld P ops S (fun a'=>wpTail P ops (fun e a w=>e= .normal∧Q' a w) S last tl k0 a' w) l a→
   wpAnyT P md ops (fun e a w=>e= .normal∧Q' a w) S last (l.length+tl.length) listed a w
 | [],k,listed,a,w,hl,hk,hw,hB,hS,h=>by
   have:k=k0:=by simpa using hk
   subst this
   rw [List.length_nil,Nat.zero_add]
   exact wpAnyT_of_tail tl k listed a w htl (by simpa [Region.lexHead] using hB) h
 | o :: l,k,listed,a,w,hl,hk,hw,hB,hS,h=>by
   have h0:ops[k]? =some o:=by simpa using (hl 0 (by simp)).symm
   simp only [List.length_cons,Region.lexHead,Bool.and_eq_true] at hB
   obtain ⟨⟨hr,hf⟩,hB'⟩:=hB
   obtain ⟨v,hy,hK⟩:=h
   have h1:=hw 0 (by simp)
   rw [Nat.add_zero] at h1
   rw [List.length_cons,show l.length+1+tl.length=(l.length+tl.length)+1 by omega]
   refine wpAnyT_first h0 (Region.noSelect_spec hsel) (fun _ _ _ h=>by cases h.1) h1.1 h1.2 _ listed a w (Region.free_spec h0 hf) (by simpa using hr) hy hS ?_
   exact wpAnyT_lex hsel htl l (k+1) _ _ w (fun j hj=>by have:=hl (j+1) (by simp;omega);simpa [Nat.add_assoc,Nat.add_comm 1 j] using this) (by simp only [List.length_cons] at hk;omega)
    (fun j hj=>by have:=hw (j+1) (by simp;omega);simpa [Nat.add_assoc,Nat.add_comm 1 j] using this) hB' hS hK
end
variable {n:Nat} {P:Program}
def heldB (ops:Array Oper) (k:Nat):Bool:=
 Region.noSelect ops && decide (k < ops.size) && Region.lexHead .any ops (ops.size - k) k 0 (Array.replicate ops.size false) && (List.range k).all fun i=>Region.waitsFor .any ops (ops.size - 1) i
theorem region_held_round {id : Nat} {Q : Exit → Act → World → Prop} {a : Act} {w : World} {l : List Oper} (S : World → Prop) (L : Nat) (k : Nat) (hm : P.follows .mixedOrders = true) (hB : heldB l.toArray k = true) (hd : noDefer l = true)
    (hS : S (w.drewN 1))
    (h : ∀ K : Act → World → Prop, Hid (∀ a w, Q .normal a w → K a w) → wpHeld P l.toArray S (fun a' => wpTail P l.toArray (fun e a w => e = .normal ∧ K a w) S (l.toArray.size - 1) (l.drop k) k a' (w.drewN 1)) (l.take k) a) :
    (Code.region id l.toArray true).wpIn (Fence.wide.inRound L) n P Q a w := by
  have h := h (Q .normal) (Lib.hid fun _ _ h => h)
  simp only [heldB, Bool.and_eq_true, decide_eq_true_eq, List.all_eq_true, List.mem_range] at hB
  obtain ⟨⟨⟨hsel, hn⟩, hlex⟩, hwt⟩ := hB
  have hn' : k < l.length := by simpa using hn
  have htl : (l.take k).length = k := by simp; omega
  have hdl : (l.drop k).length = l.toArray.size - k := by simp
  have H := wpAnyT_lex (P := P) (md := .any) (ops := l.toArray) (S := S) (last := l.toArray.size - 1) (tl := l.drop k) (k0 := k) hsel (fun j => by simp [List.getElem?_drop]) (l.take k) 0 (Array.replicate l.toArray.size false) a (w.drewN 1)
    (fun j hj => by have hj' : j < k := by rw [htl] at hj; exact hj
                    simp [hj'])
    (by simpa using htl) (fun j hj => by have hj' : j < k := by rw [htl] at hj; exact hj
                                         rw [Nat.zero_add]; exact ⟨by simp; omega, hwt j hj'⟩) (by rw [htl, hdl]; exact hlex) hS h
  rw [htl, hdl, show k + (l.toArray.size - k) = l.toArray.size by omega] at H
  have hno : ¬ LetsOut (fun e a w => e = Exit.normal ∧ Q .normal a w) := fun ⟨_, _, h, _⟩ => by cases h
  have h2 := Qdk L rfl (by simpa using hd) _ _ _ _ (anyIn_of_any (n := n) hno _ _ _ _ (wpAny_of_T _ _ _ _ H))
  exact wpIn_mono (wpIn_region_any hm h2) (fun e a w h => by obtain ⟨rfl, h⟩ := h; exact h)
end Go.Proofs.YtdlmdaononclgaaGreatDoor
namespace Go.Proofs.YtdlmdaononclgaaGreatDoor
open Go.RowKit
set_option linter.unusedVariables false
set_option linter.unusedSimpArgs false
attribute [local go_sem] Oper.semAt_some
theorem cell_block {w:World} {p:Addr} {v:Value} (h:w.cell? p=some v):∃ c e f,w.heap[p.block]? =some (.cells c e f):=by
 unfold World.cell? at h
 split at h
 ·exact ⟨_,_,_,by assumption⟩
 ·cases h
structure GI (w:World) (G n:Nat) (ws us:List Int) (t:Nat) (Y:Nat→Prop) (W:World):Prop where
 rows:∃ vs,ORows W (G+4) G vs (gridT ws us t)∧∀ k,Y k↔YR G vs k
 below:Below w.heap.size w W
 box:W.cell? ⟨G+1,0,none⟩=some (.slice (some ⟨G,0,none⟩) n n)
 size:G+4≤W.heap.size
 low:w.heap.size≤G
theorem GI.keep {w:World} {G n:Nat} {ws us:List Int} {t D:Nat} {Y:Nat→Prop} {W W':World} (h:GI w G n ws us t Y W) (k:Keep D Y W W') (hD:G+4≤D):GI w G n ws us t Y W':=by
 obtain ⟨⟨vs,ho,hY⟩,hb,hx,hs,hl⟩:=h
 exact ⟨⟨vs,ho.of_blocks (fun b hb=>k.block b (ho.in b hb).2.1 (.inr ((hY b).2 hb))),hY⟩,k.below (by omega) hb (by omega),(k.cell (by show G+1 < _;omega) (.inl (by show G+1 < _;omega))).trans hx,by have:=k.size;omega,hl⟩
def RetRows (rs:List (List Int)) (w:World) (e:Ending) (w':World):Prop:=
 ∃ G base vs,e= .returned (.slice (some ⟨G,0,none⟩) rs.length rs.length)∧w.heap.size≤G∧ORows w' base G vs rs∧Below w.heap.size w w'
theorem Round.below {Y Y':Nat→Prop} {a W W':World} {B:Nat} (h:Round Y Y' W W') (hb:Below B a W) (hY:∀ k,Y k→B≤k) (hB:B≤W.heap.size):Below B a W':=
 hb.trans ⟨h.os,h.tape,h.output,h.size,fun k hk=>h.block k (by omega) (fun hy=>by have:=hY k hy;omega)⟩
set_option maxHeartbeats 2000000 in
set_option maxRecDepth 100000 in
theorem grid_any (xs zs:List Int) (A:Option Addr) (c:Nat) (A2:Option Addr) (c2:Nat) (hP:OkP 9 100000 xs) (hQ:OkP 7 15000 zs) (hc:xs.length≤c) (hm:c≤9223372036854775807) (hc2:zs.length≤c2) (hm2:c2≤9223372036854775807)
  (w:World) (h:RD w w.heap.size A (ints xs)) (h2:RD w w.heap.size A2 (ints zs)):
  Calls Tryz.prog 76 #[.slice A xs.length c,.slice A2 zs.length c2] w (RetRows (gridZ xs zs) w):=by
 have hmf:∀ (fn:Fn) (first cap:Array Value) (w:World),(Instr.makeFunc fn first cap).run Tryz.prog w= .ok (.func fn first cap) w:=fun _ _ _ _=>rfl
 have hlen:xs.length≤9:=by have:=hP.many;omega
 have hlenz:zs.length≤7:=by have:=hQ.many;omega
 have hmk:=make_rows xs.length (by omega)
 have H1:=Lib.hid h
 have H2:=Lib.hid h2
 clear h h2
 refine (callsIn_wide (n:=9)).1 ?_
 refine callsIn_of_wp_marks Tryz.func76 rfl trivial ?_ rfl
 simp only [Tryz.ntmps76,List.size_toArray,List.length_cons,List.length_nil,Nat.reduceAdd,Nat.reduceSub,Array.replicate_succ,Array.replicate_zero,List.push_toArray,List.append_toArray,List.nil_append,List.cons_append]
 gi_wp2_with (first | ((first | refine ⟨trivial,fun h=>Qah h,?_⟩ | refine ⟨trivial,?_⟩);gi_at_call 55;(with_reducible refine (callsIn_wide.2 (Qdm xs A c hP hc hm _ H1.out)).mono ?_);rintro e w1 ⟨g1,rfl,hg1,ha1,hb1⟩) | ((first | refine ⟨trivial,fun h=>Qah h,?_⟩ | refine ⟨trivial,?_⟩);gi_at_call 55;(with_reducible refine (callsIn_wide.2 (Qdm zs A2 c2 hQ.wide hc2 hm2 _ ((H2.out.keep hb1 (Nat.le_refl _)).more hb1.size))).mono ?_);rintro e w2 ⟨g2,rfl,hg2,ha2,hb2⟩) | ((first | refine ⟨trivial,fun h=>Qah h,?_⟩ | refine ⟨trivial,?_⟩);gi_at_call 77;(with_reducible refine (callsIn_wide.2 (pairs_any _ _ _ _ _ _ _ _ _ rfl rfl)).mono ?_);rintro e w' ⟨rfl,rfl⟩))
 have HWL:=Lib.hid (Qbe xs)
 have HUL:=Lib.hid (Qbe zs)
 have hs1:=hb1.size
 have hs2:=hb2.size
 have HA1:=Lib.hid (ha1.of_block (hb2.block g1 ha1.lt))
 have HA2:=Lib.hid ha2
 have HB2:=Lib.hid (Qa hb2 hb1 (by omega))
 have hl1:g1 < w2.heap.size:=HA1.out.lt
 have hl2:g2 < w2.heap.size:=HA2.out.lt
 clear ha1 ha2 hb1 hb2 hmk H1 H2
 refine rangeE (F:=Fence.wide) (E:=PE (Qab xs) (Qab zs)) (ys:=pairsL (Qab xs).length (Qab zs).length)
  (H:=fun Y W=>HG (w2.heap.size+1+1) (Qab xs) (some ⟨g1,0,none⟩) (Qab xs).length Y W∧HG (w2.heap.size+1+1+1) (Qab zs) (some ⟨g2,0,none⟩) (Qab zs).length Y W) rfl (by omega)
  (gf:=89) (lb:= #[.pointer (some ⟨w2.heap.size+1+1,0,none⟩),.pointer (some ⟨w2.heap.size+1+1+1,0,none⟩)]) rfl trivial (enters_of Tryz.func89 (by kernel_rfl) rfl)
  (pairs1_yields _ _ _ _ _ _ _ _ _ (Nat.le_refl _) (by have:=HWL.out;omega) (Nat.le_refl _) (by have:=HUL.out;omega) (by have:=HWL.out;omega) (by have:=HUL.out;omega))
  (fun x W vs hE=>by obtain ⟨p,q,rfl,_⟩:=hE;rfl)
  (GI w w2.heap.size xs.length (Qab xs) (Qab zs)) (fun _ _ _ _=>False) (YR w2.heap.size (List.replicate (Qab xs).length (.slice none 0 0))) ?hY0
  (fun i Y A B h k=>h.keep k (by simp)) (fun _ _ _ _ _ h _=>h)
  ?start ?hH
  (fun x a' W=>∃ p8 p q,a'={tmps:= #[.slice A xs.length c,.slice A2 zs.length c2,undef,undef,.slice none 0 0,.slice (some ⟨g1,0,none⟩) (Qab xs).length (Qab xs).length,.slice (some ⟨g2,0,none⟩) (Qab zs).length (Qab zs).length,.pointer (some ⟨w2.heap.size+1,0,none⟩),.pointer (some ⟨p8,0,none⟩),.func (.func 90) #[] #[.pointer (some ⟨p,0,none⟩),.pointer (some ⟨q,0,none⟩)],undef,undef,.slice A xs.length c,.slice (some ⟨g1,0,none⟩) (Qab xs).length (Qab xs).length,.slice A2 zs.length c2,.slice (some ⟨g2,0,none⟩) (Qab zs).length (Qab zs).length,.slice A xs.length c,.int .i64 xs.length,.slice (some ⟨w2.heap.size,0,none⟩) xs.length xs.length,.slice (some ⟨g1,0,none⟩) (Qab xs).length (Qab xs).length,.slice (some ⟨g2,0,none⟩) (Qab zs).length (Qab zs).length,.func (.func 89) #[] #[.pointer (some ⟨w2.heap.size+1+1,0,none⟩),.pointer (some ⟨w2.heap.size+1+1+1,0,none⟩)],.agg #[.int .i64 x.1,.int .i64 x.2],.func (.func 90) #[] #[.pointer (some ⟨p,0,none⟩),.pointer (some ⟨q,0,none⟩)],undef,undef,undef,undef,undef,undef,undef,undef,undef,undef,undef,undef,undef,undef,undef,undef,undef,undef,undef,undef],defers:=[]}∧
    w2.heap.size+4≤p8∧W.heap[p8]? =some (.cells #[.int .i64 x.1,.int .i64 x.2] 118 (0,0))∧W.cell? ⟨p,0,none⟩=some (.int .i64 (ix (Qab xs) x.1))∧W.cell? ⟨q,0,none⟩=some (.int .i64 (ix (Qab zs) x.2)))
  ?hAx ?assign ?body ?done (fun _ _ _ _ h=>h.elim)
 case hY0=>
  intro k hk
  rcases hk with rfl | ⟨i,hi,e⟩
  · simp;omega
  · rw [List.length_replicate] at hi
    simp [vx,List.getD,List.getElem?_replicate,hi,Value.ownBlock] at e
 case start=>
  have hb:=HB2.out
  have h0:=ORows.new w2 (Qab xs).length (w2.heap.size+4) (by omega)
  rw [show (List.replicate (Qab xs).length (Value.slice none 0 0)).toArray=Array.replicate xs.length (.slice none 0 0) by rw [HWL.out];rfl] at h0
  refine ⟨⟨List.replicate (Qab xs).length (.slice none 0 0),?_,fun k=>Iff.rfl⟩,by repeat' (first | (with_reducible exact Below.refl _ _) | (with_reducible assumption) | (refine Qa (by assumption) ?_ ?_) | (with_reducible refine Qaa ?_ _) | (with_reducible refine Below.drew ?_) | (with_reducible refine Below.alloc ?_ ?_ _) | (with_reducible refine Below.setCell ?_ ?_ _) | go_size),by simp [go_sem],by simp,by omega⟩
  rw [gridT_zero]
  refine h0.of_blocks (fun k hk=>?_)
  have:=(h0.in k hk).2.1
  exact Below.block (B:=(w2.alloc (Obj.cells (Array.replicate xs.length (Value.slice none 0 0)) 22)).heap.size) (by repeat' (first | (with_reducible exact Below.refl _ _) | (with_reducible assumption) | (refine Qa (by assumption) ?_ ?_) | (with_reducible refine Qaa ?_ _) | (with_reducible refine Below.drew ?_) | (with_reducible refine Below.alloc ?_ ?_ _) | (with_reducible refine Below.setCell ?_ ?_ _) | go_size)) k this
 case hH=>
  intro W Z hB hZ
  have hs:=hB.size
  simp only [World.size_alloc] at hs
  have hzk:∀ k,Z k→k=w2.heap.size∨w2.heap.size+4≤k:=fun k hk=>by
    rcases hZ k hk with h | h
    ·rcases h with h | ⟨i,hi,e⟩
     ·exact .inl h
     ·rw [List.length_replicate] at hi
      simp [vx,List.getD,List.getElem?_replicate,hi,Value.ownBlock] at e
    ·right;simpa using h
  refine ⟨⟨?_,by omega,fun h=>by have:=hzk _ h;omega,g1,0,rfl,by omega,fun h=>by have:=hzk _ h;omega,fun j hj=>?_⟩,⟨?_,by omega,fun h=>by have:=hzk _ h;omega,g2,0,rfl,by omega,fun h=>by have:=hzk _ h;omega,fun j hj=>?_⟩⟩
  · rw [hB.cell (by simp)];simp [go_sem]
  · rw [hB.cell (by simp;omega),Nat.zero_add]
    rw [←HA1.out.cell hj]
    exact Below.cell (B:=w2.heap.size) (w:=w2) (p:=⟨g1,j,none⟩) (by repeat' (first | (with_reducible exact Below.refl _ _) | (with_reducible assumption) | (refine Qa (by assumption) ?_ ?_) | (with_reducible refine Qaa ?_ _) | (with_reducible refine Below.drew ?_) | (with_reducible refine Below.alloc ?_ ?_ _) | (with_reducible refine Below.setCell ?_ ?_ _) | go_size)) hl1
  · rw [hB.cell (by simp)];simp [go_sem]
  · rw [hB.cell (by simp;omega),Nat.zero_add]
    rw [←HA2.out.cell hj]
    exact Below.cell (B:=w2.heap.size) (w:=w2) (p:=⟨g2,j,none⟩) (by repeat' (first | (with_reducible exact Below.refl _ _) | (with_reducible assumption) | (refine Qa (by assumption) ?_ ?_) | (with_reducible refine Qaa ?_ _) | (with_reducible refine Below.drew ?_) | (with_reducible refine Below.alloc ?_ ?_ _) | (with_reducible refine Below.setCell ?_ ?_ _) | go_size)) hl2
 case hAx=>
  rintro x a' A B ⟨p8,p,q,rfl,h0,h1,h2,h3⟩ hk
  have e8:=hk p8 (Array.getElem?_eq_some_iff.1 h1).1 ⟨_,_,_,h1⟩
  obtain ⟨c1,e1,f1,hp⟩:=cell_block h2
  obtain ⟨c2,e2,f2,hq⟩:=cell_block h3
  have ep:=hk p (Array.getElem?_eq_some_iff.1 hp).1 ⟨_,_,_,hp⟩
  have eq:=hk q (Array.getElem?_eq_some_iff.1 hq).1 ⟨_,_,_,hq⟩
  exact ⟨p8,p,q,rfl,h0,e8.trans h1,(World.cell?_of_block ep).trans h2,(World.cell?_of_block eq).trans h3⟩
 case assign=>
  rintro l i x Y W vs K hx hI hlt ⟨p,q,rfl,hp,hq⟩ hK
  have hz:=hI.size
  have HK:=Lib.hid hK
  have HI:=Lib.hid hI
  have HP:=Lib.hid hp
  have HQ:=Lib.hid hq
  clear hK hI hlt hp hq
  gi_wp2
  exact HK.out _ _ (by go_grown) ⟨_,_,_,rfl,hz,heap_alloc_new W _,cell_later (Below.alloc (Below.refl _ _) (Nat.le_refl _) _) HP.out,cell_later (Below.alloc (Below.refl _ _) (Nat.le_refl _) _) HQ.out⟩
 case body=>
  rintro l t ⟨i,k⟩ a' Y W hl ⟨r,hr⟩ hx hI hlt ⟨p8,p,q,rfl,hp8,hc8,hcp,hcq⟩
  obtain ⟨hi,hk,ht⟩:=pairsL_at hx
  obtain ⟨⟨vs,ho,hY⟩,hbe,hbx,hsz,hlo⟩:=hI
  simp only at hi hk ht hc8 hcp hcq
  have hix:i < xs.length:=by have:=HWL.out;omega
  have p0:W.cell? ⟨p8,0,none⟩=some (.int .i64 i):=by rw [cell_of_row W p8 0 _ _ _ hc8];rfl
  have g0:=ho.cell (i:=i) (by rw [Qbi];exact hi)
  have f0:=ho.free i
  obtain rfl:Y=YR w2.heap.size vs:=funext fun k=>propext (hY k)
  have HO:=Lib.hid ho
  have hrow:∀ b,(vx vs i).ownBlock=some b→w2.heap.size+4≤b∧b < W.heap.size∧b≠p8:=by
    intro b hb
    have hei:=HO.out.each i (by rw [Qbi];exact hi)
    obtain ⟨_,_,_,_,_,_,_,hbb⟩:=hei.form
    obtain ⟨cs,hcs⟩:=hei.kind hb
    refine ⟨(hbb b hb).1,(hbb b hb).2,fun e=>?_⟩
    rw [e,hc8] at hcs
    simp at hcs
  have HR:=Lib.hid hrow
  clear hrow
  have HT:=Lib.hid ht
  have HBE:=Lib.hid hbe
  have HC8:=Lib.hid hc8
  clear ho hY ht hbe hlt hx hr hl hc8
  gi_wp2_with ((first | refine ⟨trivial,fun h=>Qah h,?_⟩ | refine ⟨trivial,?_⟩);gi_at_call 90;(with_reducible refine (CallsIn.inRound _ (callsIn_wide.2 (both_any' _ _ _ _ _ hcp hcq))).mono ?_);rintro e w' ⟨rfl,nq,rfl⟩)
  (refine region_held_round (fun w'=>w'.cell? ⟨w2.heap.size+1,0,none⟩=some (.slice (some ⟨w2.heap.size,0,none⟩) xs.length xs.length)∧w'.cell? ⟨p8,0,none⟩=some (.int .i64 i)∧w'.cell? ⟨w2.heap.size,i,none⟩=some (vx vs i)) l 11 (by kernel_rfl) (by kernel_rfl) (by kernel_rfl) ⟨hbx,p0,g0⟩ ?_)
  intro K hK
  simp only [List.take_succ_cons,List.take_zero,List.drop_succ_cons,List.drop_zero]
  refine ⟨.slice (some ⟨w2.heap.size,0,none⟩) xs.length xs.length,Or.inl ⟨by rfl,fun w' hS=>?_⟩,?_⟩;(· obtain ⟨s1,s2,s3⟩:=hS;go_simp);try simp only [Act.put,List.setIfInBounds_toArray,List.set_cons_zero,List.set_cons_succ]
  refine ⟨.pointer (some ⟨p8,0,none⟩),Or.inl ⟨by rfl,fun w' hS=>?_⟩,?_⟩;(· obtain ⟨s1,s2,s3⟩:=hS;go_simp);try simp only [Act.put,List.setIfInBounds_toArray,List.set_cons_zero,List.set_cons_succ]
  refine ⟨.int .i64 i,Or.inl ⟨by rfl,fun w' hS=>?_⟩,?_⟩;(· obtain ⟨s1,s2,s3⟩:=hS;go_simp);try simp only [Act.put,List.setIfInBounds_toArray,List.set_cons_zero,List.set_cons_succ]
  refine ⟨.slice (some ⟨w2.heap.size,0,none⟩) xs.length xs.length,Or.inl ⟨by rfl,fun w' hS=>?_⟩,?_⟩;(· obtain ⟨s1,s2,s3⟩:=hS;go_simp);try simp only [Act.put,List.setIfInBounds_toArray,List.set_cons_zero,List.set_cons_succ]
  refine ⟨.pointer (some ⟨p8,0,none⟩),Or.inl ⟨by rfl,fun w' hS=>?_⟩,?_⟩;(· obtain ⟨s1,s2,s3⟩:=hS;go_simp);try simp only [Act.put,List.setIfInBounds_toArray,List.set_cons_zero,List.set_cons_succ]
  refine ⟨.int .i64 i,Or.inl ⟨by rfl,fun w' hS=>?_⟩,?_⟩;(· obtain ⟨s1,s2,s3⟩:=hS;go_simp);try simp only [Act.put,List.setIfInBounds_toArray,List.set_cons_zero,List.set_cons_succ]
  refine ⟨.pointer (some ⟨w2.heap.size,i,none⟩),Or.inl ⟨by rfl,fun w' hS=>?_⟩,?_⟩;(· obtain ⟨s1,s2,s3⟩:=hS;go_simp);try simp only [Act.put,List.setIfInBounds_toArray,List.set_cons_zero,List.set_cons_succ]
  refine ⟨vx vs i,Or.inl ⟨by rfl,fun w' hS=>?_⟩,?_⟩;(· obtain ⟨s1,s2,s3⟩:=hS;go_simp);try simp only [Act.put,List.setIfInBounds_toArray,List.set_cons_zero,List.set_cons_succ]
  refine ⟨.int .i64 (ix (Qab xs) i),Or.inl ⟨by rfl,fun w' hS=>?_⟩,?_⟩;(· obtain ⟨s1,s2,s3⟩:=hS;go_simp);try simp only [Act.put,List.setIfInBounds_toArray,List.set_cons_zero,List.set_cons_succ]
  refine ⟨.int .i64 (ix (Qab zs) k),Or.inl ⟨by rfl,fun w' hS=>?_⟩,?_⟩;(· obtain ⟨s1,s2,s3⟩:=hS;go_simp);try simp only [Act.put,List.setIfInBounds_toArray,List.set_cons_zero,List.set_cons_succ]
  refine ⟨.int .i64 (IntKind.i64.wrap (ix (Qab xs) i * ix (Qab zs) k)),Or.inl ⟨by rfl,fun w' hS=>?_⟩,?_⟩;(· obtain ⟨s1,s2,s3⟩:=hS;go_simp);try simp only [Act.put,List.setIfInBounds_toArray,List.set_cons_zero,List.set_cons_succ]
  refine Qag (fun K1 hK1=>?_)
  go_simp
  refine hK1.out _ _ (fun _=>⟨cell_later (by repeat' (first | (with_reducible exact Below.refl _ _) | (with_reducible assumption) | (refine Qa (by assumption) ?_ ?_) | (with_reducible refine Qaa ?_ _) | (with_reducible refine Below.drew ?_) | (with_reducible refine Below.alloc ?_ ?_ _) | (with_reducible refine Below.setCell ?_ ?_ _) | go_size)) hbx,cell_later (by repeat' (first | (with_reducible exact Below.refl _ _) | (with_reducible assumption) | (refine Qa (by assumption) ?_ ?_) | (with_reducible refine Qaa ?_ _) | (with_reducible refine Below.drew ?_) | (with_reducible refine Below.alloc ?_ ?_ _) | (with_reducible refine Below.setCell ?_ ?_ _) | go_size)) p0,cell_later (by repeat' (first | (with_reducible exact Below.refl _ _) | (with_reducible assumption) | (refine Qa (by assumption) ?_ ?_) | (with_reducible refine Qaa ?_ _) | (with_reducible refine Below.drew ?_) | (with_reducible refine Below.alloc ?_ ?_ _) | (with_reducible refine Below.setCell ?_ ?_ _) | go_size)) g0⟩) ?_
  clear hK1 K1
  refine Qag (fun K2 hK2=>?_)
  refine op_app2 rfl (.tmp 36) (.tmp 40) rfl (w2.heap.size+4) (vx vs i) (rx (gridT (Qab xs) (Qab zs) t) i) rfl ((HO.out.each i (by rw [Qbi];exact hi)).kept (by repeat' (first | (with_reducible exact Below.refl _ _) | (with_reducible assumption) | (refine Qa (by assumption) ?_ ?_) | (with_reducible refine Qaa ?_ _) | (with_reducible refine Below.drew ?_) | (with_reducible refine Below.alloc ?_ ?_ _) | (with_reducible refine Below.setCell ?_ ?_ _) | go_size)) (Nat.le_refl _)) _ 1 _ rfl (Qba _ _ _) (by rw [gridT_row_length hi hk HT.out];have:=HUL.out;omega) (by simp [Qac];omega) ?_
  intro v' W4 hown' hgrow hob
  obtain ⟨A4,c4,hv4,_⟩:=hown'.form
  obtain ⟨n4,hn4⟩:∃ n4,(rx (gridT (Qab xs) (Qab zs) t) i ++ [IntKind.i64.wrap (ix (Qab xs) i * ix (Qab zs) k)]).length=n4:=⟨_,rfl⟩
  rw [hn4] at hv4
  subst hv4
  have k1:W4.cell? ⟨w2.heap.size+1,0,none⟩=some (.slice (some ⟨w2.heap.size,0,none⟩) xs.length xs.length):=hgrow.cell (cell_later (by repeat' (first | (with_reducible exact Below.refl _ _) | (with_reducible assumption) | (refine Qa (by assumption) ?_ ?_) | (with_reducible refine Qaa ?_ _) | (with_reducible refine Below.drew ?_) | (with_reducible refine Below.alloc ?_ ?_ _) | (with_reducible refine Below.setCell ?_ ?_ _) | go_size)) hbx) (fun e=>by have:=(HR.out _ e.symm).1;simp only at this;omega)
  have k2:W4.cell? ⟨p8,0,none⟩=some (.int .i64 i):=hgrow.cell (cell_later (by repeat' (first | (with_reducible exact Below.refl _ _) | (with_reducible assumption) | (refine Qa (by assumption) ?_ ?_) | (with_reducible refine Qaa ?_ _) | (with_reducible refine Below.drew ?_) | (with_reducible refine Below.alloc ?_ ?_ _) | (with_reducible refine Below.setCell ?_ ?_ _) | go_size)) p0) (fun e=>by have:=(HR.out _ e.symm).2.2;simp at this)
  have k3:W4.cell? ⟨w2.heap.size,i,none⟩=some (vx vs i):=hgrow.cell (cell_later (by repeat' (first | (with_reducible exact Below.refl _ _) | (with_reducible assumption) | (refine Qa (by assumption) ?_ ?_) | (with_reducible refine Qaa ?_ _) | (with_reducible refine Below.drew ?_) | (with_reducible refine Below.alloc ?_ ?_ _) | (with_reducible refine Below.setCell ?_ ?_ _) | go_size)) g0) (fun e=>by have:=(HR.out _ e.symm).1;simp only at this;omega)
  have hG:w2.heap.size < W.heap.size:=by omega
  have k4:W4.frozen? ⟨w2.heap.size,i,none⟩=false:=(World.frozen?_of_block (hgrow.block w2.heap.size (by simp [Qac];omega) (fun e=>by have:=(HR.out _ e.symm).1;omega))).trans ((World.frozen?_of_block (Below.block (B:=W.heap.size) (w:=W) (by repeat' (first | (with_reducible exact Below.refl _ _) | (with_reducible assumption) | (refine Qa (by assumption) ?_ ?_) | (with_reducible refine Qaa ?_ _) | (with_reducible refine Below.drew ?_) | (with_reducible refine Below.alloc ?_ ?_ _) | (with_reducible refine Below.setCell ?_ ?_ _) | go_size)) w2.heap.size hG)).trans f0)
  have hfin:=HO.out.put_round (by repeat' (first | (with_reducible exact Below.refl _ _) | (with_reducible assumption) | (refine Qa (by assumption) ?_ ?_) | (with_reducible refine Qaa ?_ _) | (with_reducible refine Below.drew ?_) | (with_reducible refine Below.alloc ?_ ?_ _) | (with_reducible refine Below.setCell ?_ ?_ _) | go_size)) (i:=i) (by rw [Qbi];exact hi) hsz hgrow hown' hob
  have HF:=Lib.hid hfin
  clear hfin hgrow hob hown'
  refine hK2.out _ _ (fun _=>⟨k1,k2,k3⟩) ?_
  clear hK2 K2
  refine Qag (fun K3 hK3=>?_)
  go_simp
  refine hK3.out _ _ (fun _=>⟨k1,k2,k3⟩) ?_
  clear hK3 K3
  refine Qag (fun K4 hK4=>?_)
  go_simp
  refine hK4.out _ _ (fun h=>absurd rfl h) ?_
  clear hK4 K4
  refine ⟨rfl,hK.out _ _ ?_⟩
  gi_wp2
  obtain ⟨hro,hrr⟩:=HF.out
  refine ⟨YR w2.heap.size (vs.set i _),⟨⟨_,by rw [gridT_succ hi hk HT.out];exact hro,fun k=>Iff.rfl⟩,hrr.below HBE.out (fun b hb=>by have:=(HO.out.in b hb).1;omega) (by omega),(hrr.cell (p:=⟨w2.heap.size+1,0,none⟩) (by show w2.heap.size+1 < _;omega) (fun hb=>by have:=(HO.out.in _ hb).2.2;simp only at this;omega)).trans hbx,by have:=hrr.size;omega,hlo⟩,hrr⟩
 case done=>
  intro Y W hI hD
  obtain ⟨⟨vs,ho,hY⟩,hbe,hbx,hsz,hlo⟩:=hI
  obtain rfl:Y=YR w2.heap.size vs:=funext fun k=>propext (hY k)
  have HO:=Lib.hid ho
  have HBE:=Lib.hid hbe
  have HD:=Lib.hid hD
  clear ho hbe hD hY
  gi_wp2
  refine ⟨by simp,.inl ⟨_,_,rfl,run_takeDeferred HD.out,?_⟩⟩
  simp only [World.size_alloc] at HD ⊢
  have hl:(gridZ xs zs).length=xs.length:=(Qbi _ _ _).trans HWL.out
  have hne:∀ k,YR w2.heap.size vs k→k≠w2.heap.size+1+1+1+1:=fun k hk e=>by
    rcases hk with h | ⟨i,hi,e2⟩
    ·omega
    ·obtain ⟨cs,hcs⟩:=(HO.out.each i (by rw [←HO.out.len];exact hi)).kind e2
     rw [e,HD.out] at hcs
     cases hcs
  refine ⟨_,results_tmp rfl _ _ _,w2.heap.size,w2.heap.size+4,vs,by rw [hl];rfl,hlo,?_,?_⟩
  · have h:=HO.out.of_blocks (w':=W.putObj (w2.heap.size+1+1+1+1) (.deferred none)) (fun k hk=>World.putObj_heap_other (hne k hk))
    rw [Qcj] at h
    exact h
  · exact ((Keep.refl (w2.heap.size+4) (YR w2.heap.size vs) W).putObj (l:=w2.heap.size+1+1+1+1) (by omega) (fun h=>hne _ h rfl) (.deferred none)).below (by omega) HBE.out (by omega)
end Go.Proofs.YtdlmdaononclgaaGreatDoor
namespace Go.Proofs.YtdlmdaononclgaaGreatDoor
open Go.RowKit
set_option linter.unusedVariables false
set_option linter.unusedSimpArgs false
attribute [local go_sem] Oper.semAt_some
def volT (gs hs:List (List Int)) (m:Nat):Nat→Int
 | 0=>0
 | t+1=>IntKind.i64.wrap (volT gs hs m t+IntKind.i64.wrap (IntKind.i64.wrap (2 * ix (rx gs (t / m)) (t % m)) * ix (rx hs (t / m)) (t % m)))
theorem volT_succ (gs hs:List (List Int)) {m t i k:Nat} (hk:k < m) (ht:t=i * m+k):
  volT gs hs m (t+1)=IntKind.i64.wrap (volT gs hs m t+IntKind.i64.wrap (IntKind.i64.wrap (2 * ix (rx gs i) k) * ix (rx hs i) k)):=by
 have e1:t / m=i:=by rw [ht,Nat.mul_comm,Nat.mul_add_div (by omega),Nat.div_eq_of_lt hk];rfl
 have e2:t % m=k:=by rw [ht,Nat.mul_comm,Nat.mul_add_mod,Nat.mod_eq_of_lt hk]
 rw [volT,e1,e2]
def volZ (xs zs:List Int) (rs:List (List Int)):Int:=volT (gridZ xs zs) rs zs.length (xs.length * zs.length)
structure VI (W0:World) (acc:Nat) (T:Nat→Int) (t:Nat) (Y:Nat→Prop) (W:World):Prop where
 Y:∀ k,Y k↔k=acc
 os:W.os=W0.os
 tape:W.tape=W0.tape
 output:W.output=W0.output
 size:W0.heap.size≤W.heap.size
 block:∀ k,k < W0.heap.size→k≠acc→W.heap[k]? =W0.heap[k]?
 cell:W.heap[acc]? =some (.cells #[.int .i64 (T t)] 3 (0,0))
theorem VI.keep {W0:World} {acc:Nat} {T:Nat→Int} {t D:Nat} {Y:Nat→Prop} {W W':World} (h:VI W0 acc T t Y W) (k:Keep D Y W W') (hD:D=W0.heap.size):VI W0 acc T t Y W':=by
 subst hD
 have hs:=h.size
 exact ⟨h.Y,k.os.trans h.os,k.tape.trans h.tape,k.output.trans h.output,Nat.le_trans h.size k.size,fun b hb hne=>(k.block b (by omega) (.inl hb)).trans (h.block b hb hne),
  (k.block acc (Array.getElem?_eq_some_iff.1 h.cell).1 (.inr ((h.Y acc).2 rfl))).trans h.cell⟩
theorem VI.cellAt {W0:World} {acc:Nat} {T:Nat→Int} {t:Nat} {Y:Nat→Prop} {W:World} (h:VI W0 acc T t Y W) {p:Addr} {v:Value} (hc:W0.cell? p=some v) (hne:p.block≠acc):W.cell? p=some v:=by
 obtain ⟨c,e,f,hb⟩:=cell_block hc
 exact (World.cell?_of_block (h.block _ (Array.getElem?_eq_some_iff.1 hb).1 hne)).trans hc
theorem VI.set {W0:World} {acc:Nat} {T:Nat→Int} {t:Nat} {W:World} (h:VI W0 acc T t (fun k=>k=acc) W) {v:Int} (hv:T (t+1)=v):
  VI W0 acc T (t+1) (fun k=>k=acc) ((W.drewN 1).setCell ⟨acc,0,none⟩ (.int .i64 v))∧Round (fun k=>k=acc) (fun k=>k=acc) W ((W.drewN 1).setCell ⟨acc,0,none⟩ (.int .i64 v)):=by
 have hc:=h.cell
 have hlt:=(Array.getElem?_eq_some_iff.1 hc).1
 have hs:=h.size
 have hb:∀ k,k≠acc→((W.drewN 1).setCell ⟨acc,0,none⟩ (.int .i64 v)).heap[k]? =W.heap[k]? :=fun k hk=>Below.heap_setCell _ _ _ _ hk
 refine ⟨⟨fun _=>Iff.rfl,h.os,h.tape,h.output,by simp [World.setCell,World.drewN];exact hs,fun k hk hne=>(hb k hne).trans (h.block k hk hne),?_⟩,⟨rfl,rfl,rfl,by simp [World.setCell,World.drewN],fun k hk hne=>hb k hne,fun k hk=>.inl hk,fun k hk=>by subst hk;simpa [World.setCell,World.drewN] using hlt⟩⟩
 subst hv
 have hc':(W.drewN 1).heap[acc]? =some (.cells #[.int .i64 (T t)] 3 (0,0)):=hc
 show (W.setCell ⟨acc,0,none⟩ (.int .i64 (T (t+1)))).heap[acc]? =_
 simp [World.setCell,Array.getElem?_modify,hc]
theorem RR.cells_at {w:World} {B G:Nat} {vs:List Value} {rs:List (List Int)} (h:RR w B (some ⟨G,0,none⟩) vs rs) {i:Nat} (hi:i < rs.length):G < B∧w.cell? ⟨G,i,none⟩=some (vx vs i):=by
 obtain ⟨b,off,e,hb,hc⟩:=h.cells (by omega)
 cases e
 exact ⟨hb,by have:=hc i hi;rwa [Nat.zero_add] at this⟩
theorem TBox.later {w w1:World} {a b c:Value} {t:TypeId} (h:Below (w.alloc (.cells #[a,b,c] t)).heap.size (w.alloc (.cells #[a,b,c] t)) w1):TBox w1 w.heap.size a b c:=by
 have e:∀ j v,(#[a,b,c]:Array Value)[j]? =some v→w1.cell? ⟨w.heap.size,j,none⟩=some v:=fun j v hv=>by
  rw [h.cell (p:=⟨w.heap.size,j,none⟩) (by simp),cell_of_row _ w.heap.size j _ _ _ (heap_alloc_new w _)]
  exact hv
 exact ⟨e 0 a rfl,e 1 b rfl,e 2 c rfl⟩
theorem TBox.keep {w w1:World} {q:Nat} {a b c:Value} (h:TBox w q a b c) (hb:Below w.heap.size w w1):TBox w1 q a b c:=⟨cell_later hb h.c0,cell_later hb h.c1,cell_later hb h.c2⟩
set_option maxHeartbeats 2000000 in
set_option maxRecDepth 100000 in
theorem Volume_yes {xs zs:List Int} {rs:List (List Int)} (hr:Qav xs zs rs=true) (A1:Option Addr) (c1:Nat) (A2:Option Addr) (c2:Nat) (A3:Option Addr) (c3:Nat) (vs:List Value) (w:World) (h:TD w w.heap.size xs zs rs A1 c1 A2 c2 A3 c3 vs):
  Calls Tryz.prog 58 #[.agg #[.slice A1 xs.length c1,.slice A2 zs.length c2,.slice A3 rs.length c3]] w fun e w'=>e= .returned (.tuple #[.int .i64 (volZ xs zs rs),.int .i64 0])∧Below w.heap.size w w':=by
 have hmf:∀ (fn:Fn) (first cap:Array Value) (w:World),(Instr.makeFunc fn first cap).run Tryz.prog w= .ok (.func fn first cap) w:=fun _ _ _ _=>rfl
 have hr':=hr
 simp only [Qav,gridB,Bool.and_eq_true,decide_eq_true_eq] at hr'
 obtain ⟨⟨hP',hQ'⟩,hrl,hbad⟩:=hr'
 have hP:=okP_true hP'
 have hQ:=okP_true hQ'
 have hlen:xs.length≤9:=by have:=hP.many;omega
 have hlenz:zs.length≤7:=by have:=hQ.many;omega
 obtain ⟨b1,off1,rfl,hbl1,hcl1⟩:=h.rd1.ints (by have:=hP.two;omega)
 obtain ⟨b2,off2,rfl,hbl2,hcl2⟩:=h.rd2.ints (by have:=hQ.two;omega)
 have HC1:=Lib.hid hcl1
 have HC2:=Lib.hid hcl2
 clear hcl1 hcl2
 have H:=Lib.hid h
 have HRL:=Lib.hid hrl
 have HBAD:=Lib.hid hbad
 have HR:=Lib.hid hr
 clear h hP' hQ' hrl hbad hr
 refine (callsIn_wide (n:=9)).1 ?_
 refine callsIn_of_wp_marks Tryz.func58 rfl trivial ?_ rfl
 simp only [Tryz.ntmps58,List.size_toArray,List.length_cons,List.length_nil,Nat.reduceAdd,Nat.reduceSub,Array.replicate_succ,Array.replicate_zero,List.push_toArray,List.append_toArray,List.nil_append,List.cons_append]
 gi_wp2_with (first | ((first | refine ⟨trivial,fun h=>Qah h,?_⟩ | refine ⟨trivial,?_⟩);gi_at_call 14;(with_reducible refine (callsIn_wide.2 (Qcz HR.out (some ⟨b1,off1,none⟩) c1 (some ⟨b2,off2,none⟩) c2 A3 c3 vs _ ((H.out.keep (by repeat' (first | (with_reducible exact Below.refl _ _) | (with_reducible assumption) | (refine Qa (by assumption) ?_ ?_) | (with_reducible refine Qaa ?_ _) | (with_reducible refine Below.drew ?_) | (with_reducible refine Below.alloc ?_ ?_ _) | (with_reducible refine Below.setCell ?_ ?_ _) | go_size)) (Nat.le_refl _)).more (by simp)))).mono ?_);rintro e w1 ⟨rfl,hb1⟩;obtain ⟨t0,t1,t2⟩:=TBox.later hb1) | ((first | refine ⟨trivial,fun h=>Qah h,?_⟩ | refine ⟨trivial,?_⟩);gi_at_call 76;(with_reducible refine (callsIn_wide.2 (grid_any xs zs (some ⟨b1,off1,none⟩) c1 (some ⟨b2,off2,none⟩) c2 hP hQ H.out.hc1 H.out.hm1 H.out.hc2 H.out.hm2 _ ((H.out.rd1.keep (Qa hb1 (by repeat' (first | (with_reducible exact Below.refl _ _) | (with_reducible assumption) | (refine Qa (by assumption) ?_ ?_) | (with_reducible refine Qaa ?_ _) | (with_reducible refine Below.drew ?_) | (with_reducible refine Below.alloc ?_ ?_ _) | (with_reducible refine Below.setCell ?_ ?_ _) | go_size)) (by simp)) (Nat.le_refl _)).more (by have:=hb1.size;simp at this;omega)) ((H.out.rd2.keep (Qa hb1 (by repeat' (first | (with_reducible exact Below.refl _ _) | (with_reducible assumption) | (refine Qa (by assumption) ?_ ?_) | (with_reducible refine Qaa ?_ _) | (with_reducible refine Below.drew ?_) | (with_reducible refine Below.alloc ?_ ?_ _) | (with_reducible refine Below.setCell ?_ ?_ _) | go_size)) (by simp)) (Nat.le_refl _)).more (by have:=hb1.size;simp at this;omega)))).mono ?_);rintro e w2 ⟨G,base,gv,rfl,hG,hgo,hb2⟩;obtain ⟨u0,u1,u2⟩:=TBox.keep ⟨t0,t1,t2⟩ hb2;have hqt:w.heap.size < w2.heap.size:=by have h1:=hb1.size;have h2:=hb2.size;rw [World.size_alloc] at h1;omega) | ((first | refine ⟨trivial,fun h=>Qah h,?_⟩ | refine ⟨trivial,?_⟩);gi_at_call 77;(with_reducible refine (callsIn_wide.2 (pairs_any _ _ _ _ _ _ _ _ _ rfl rfl)).mono ?_);rintro e w' ⟨rfl,rfl⟩))
 have hb0:Below w.heap.size w w2:=Qa hb2 (Qa hb1 (by repeat' (first | (with_reducible exact Below.refl _ _) | (with_reducible assumption) | (refine Qa (by assumption) ?_ ?_) | (with_reducible refine Qaa ?_ _) | (with_reducible refine Below.drew ?_) | (with_reducible refine Below.alloc ?_ ?_ _) | (with_reducible refine Below.setCell ?_ ?_ _) | go_size)) (by simp)) (by have h1:=hb1.size;rw [World.size_alloc] at h1;omega)
 generalize hW0:(((w2.alloc (.cells #[.slice (some ⟨G,0,none⟩) (gridZ xs zs).length (gridZ xs zs).length] 24)).alloc (.cells #[.int .i64 0] 3)).alloc (.cells #[.slice (some ⟨b1,off1,none⟩) xs.length c1] 22)).alloc (.cells #[.slice (some ⟨b2,off2,none⟩) zs.length c2] 22)=W0
 have s0:W0.heap.size=w2.heap.size+4:=by rw [←hW0];simp
 have BW:Below w2.heap.size w2 W0:=by rw [←hW0];repeat' (first | (with_reducible exact Below.refl _ _) | (with_reducible assumption) | (refine Qa (by assumption) ?_ ?_) | (with_reducible refine Qaa ?_ _) | (with_reducible refine Below.drew ?_) | (with_reducible refine Below.alloc ?_ ?_ _) | (with_reducible refine Below.setCell ?_ ?_ _) | go_size)
 have ca:W0.heap[w2.heap.size+1]? =some (.cells #[.int .i64 0] 3 (0,0)):=by
  have h0:=heap_alloc_new (w2.alloc (.cells #[.slice (some ⟨G,0,none⟩) (gridZ xs zs).length (gridZ xs zs).length] 24)) (.cells #[.int .i64 0] 3)
  rw [World.size_alloc] at h0
  rw [←h0, ←hW0]
  exact Below.block (B:=w2.heap.size+2) (by repeat' (first | (with_reducible exact Below.refl _ _) | (with_reducible assumption) | (refine Qa (by assumption) ?_ ?_) | (with_reducible refine Qaa ?_ _) | (with_reducible refine Below.drew ?_) | (with_reducible refine Below.alloc ?_ ?_ _) | (with_reducible refine Below.setCell ?_ ?_ _) | go_size)) _ (by omega)
 have c4:W0.cell? ⟨w2.heap.size,0,none⟩=some (.slice (some ⟨G,0,none⟩) (gridZ xs zs).length (gridZ xs zs).length):=by rw [←hW0];simp [go_sem]
 have cq1:W0.cell? ⟨w2.heap.size+1+1,0,none⟩=some (.slice (some ⟨b1,off1,none⟩) xs.length c1):=by rw [←hW0];simp [go_sem]
 have cq2:W0.cell? ⟨w2.heap.size+1+1+1,0,none⟩=some (.slice (some ⟨b2,off2,none⟩) zs.length c2):=by rw [←hW0];simp [go_sem]
 have hG1:G < w2.heap.size:=(Array.getElem?_eq_some_iff.1 hgo.blk).1
 have hgl:(gridZ xs zs).length=xs.length:=(Qbi _ _ _).trans (Qbe xs)
 have hgrl:∀ i,i < xs.length→∀ k,k < zs.length→k < (rx (gridZ xs zs) i).length:=fun i hi k hk=>by
  rw [gridZ,gridT_full (by rw [Qbe];exact hi)]
  simp [Qbe,hk]
 have hhl:∀ i,i < xs.length→(rx rs i).length=zs.length:=fun i hi=>by
  have hno:anyR (Qbq zs.length) rs=false:=by have:=HBAD.out;simpa using this
  rw [anyR,List.any_eq_false] at hno
  have hir:i < rs.length:=by rw [HRL.out];exact hi
  have:=hno _ (List.getElem_mem hir)
  have e:rx rs i=rs[i]:=by simp [rx,List.getD,List.getElem?_eq_getElem hir]
  rw [←e] at this
  simp only [Qbq,Bool.or_eq_true,Bool.not_eq_true',decide_eq_false_iff_not,not_or,Classical.not_not] at this
  exact this.1
 have RG:=Lib.hid (hgo.rr.keep BW (Nat.le_refl _))
 have HT3:=Lib.hid ((H.out.rd3.keep (Qa BW hb0 hb0.size) (Nat.le_refl _)))
 have v2:=cell_later BW u2
 have HGL:=Lib.hid hgl
 have HGRL:=Lib.hid hgrl
 have HHL:=Lib.hid hhl
 have HB0:=Lib.hid (Qa BW hb0 hb0.size)
 have HCA:=Lib.hid ca
 have X1:=Lib.hid cq1
 have X2:=Lib.hid cq2
 have D1:=Lib.hid (fun j hj=>((Qa BW hb0 hb0.size).cell (p:=⟨b1,off1+j,none⟩) hbl1).trans (HC1.out j hj))
 have D2:=Lib.hid (fun j hj=>((Qa BW hb0 hb0.size).cell (p:=⟨b2,off2+j,none⟩) hbl2).trans (HC2.out j hj))
 have hwle:=hb0.size
 clear hW0 hgl hgrl hhl ca cq1 cq2 hgo hb0 hb1 hb2 u0 u1 u2 t0 t1 t2 BW HC1 HC2
 refine rangeE (F:=Fence.wide) (E:=PE xs zs) (ys:=pairsL xs.length zs.length)
  (H:=fun Y W=>HG (w2.heap.size+1+1) xs (some ⟨b1,off1,none⟩) c1 Y W∧HG (w2.heap.size+1+1+1) zs (some ⟨b2,off2,none⟩) c2 Y W) rfl (by omega)
  (gf:=89) (lb:= #[.pointer (some ⟨w2.heap.size+1+1,0,none⟩),.pointer (some ⟨w2.heap.size+1+1+1,0,none⟩)]) rfl trivial (enters_of Tryz.func89 (by kernel_rfl) rfl)
  (pairs1_yields _ _ _ _ _ _ _ _ _ H.out.hc1 H.out.hm1 H.out.hc2 H.out.hm2 (by omega) (by omega))
  (fun x W vs hE=>by obtain ⟨p,q,rfl,_⟩:=hE;rfl)
  (VI W0 (w2.heap.size+1) (volT (gridZ xs zs) rs zs.length)) (fun _ _ _ _=>False) (fun k=>k=w2.heap.size+1) (fun k hk=>by omega)
  (fun i Y A B h k=>h.keep k rfl) (fun _ _ _ _ _ h _=>h)
  ⟨fun _=>Iff.rfl,rfl,rfl,rfl,Nat.le_refl _,fun _ _ _=>rfl,HCA.out⟩ ?hH
  (fun x a' W=>∃ p6 p q,a'={tmps:= #[.agg #[.slice (some ⟨b1,off1,none⟩) xs.length c1,.slice (some ⟨b2,off2,none⟩) zs.length c2,.slice A3 rs.length c3],.pointer (some ⟨w.heap.size,0,none⟩),.int .i64 0,.int .i64 0,.pointer (some ⟨w2.heap.size,0,none⟩),.pointer (some ⟨w2.heap.size+1,0,none⟩),.pointer (some ⟨p6,0,none⟩),.agg #[.slice (some ⟨b1,off1,none⟩) xs.length c1,.slice (some ⟨b2,off2,none⟩) zs.length c2,.slice A3 rs.length c3],.bool true,.bool false,.pointer (some ⟨w.heap.size,0,none⟩),.slice (some ⟨b1,off1,none⟩) xs.length c1,.pointer (some ⟨w.heap.size,1,none⟩),.slice (some ⟨b2,off2,none⟩) zs.length c2,.slice (some ⟨G,0,none⟩) (gridZ xs zs).length (gridZ xs zs).length,.pointer (some ⟨w.heap.size,0,none⟩),.slice (some ⟨b1,off1,none⟩) xs.length c1,.pointer (some ⟨w.heap.size,1,none⟩),.slice (some ⟨b2,off2,none⟩) zs.length c2,.func (.func 89) #[] #[.pointer (some ⟨w2.heap.size+1+1,0,none⟩),.pointer (some ⟨w2.heap.size+1+1+1,0,none⟩)],.agg #[.int .i64 x.1,.int .i64 x.2],.func (.func 90) #[] #[.pointer (some ⟨p,0,none⟩),.pointer (some ⟨q,0,none⟩)],undef,undef,undef,undef,undef,undef,undef,undef,undef,undef,undef,undef,undef,undef,undef,undef,undef,undef,undef,undef,undef,undef,undef,undef],defers:=[]}∧
    W.heap[p6]? =some (.cells #[.int .i64 x.1,.int .i64 x.2] 118 (0,0)))
  ?hAx ?assign ?body ?done (fun _ _ _ _ h=>h.elim)
 case hH=>
  intro W Z hB hZ
  have hs:=hB.size
  have hzk:∀ k,Z k→k=w2.heap.size+1∨w2.heap.size+4≤k:=fun k hk=>by
    rcases hZ k hk with h | h
    ·exact .inl h
    ·right;omega
  refine ⟨⟨cell_later hB X1.out,by omega,fun h=>by have:=hzk _ h;omega,b1,off1,rfl,by omega,fun h=>by have:=hzk _ h;omega,fun j hj=>cell_later hB (D1.out j hj)⟩,⟨cell_later hB X2.out,by omega,fun h=>by have:=hzk _ h;omega,b2,off2,rfl,by omega,fun h=>by have:=hzk _ h;omega,fun j hj=>cell_later hB (D2.out j hj)⟩⟩
 case hAx=>
  rintro x a' A B ⟨p6,p,q,rfl,h1⟩ hk
  have e8:=hk p6 (Array.getElem?_eq_some_iff.1 h1).1 ⟨_,_,_,h1⟩
  exact ⟨p6,p,q,rfl,e8.trans h1⟩
 case assign=>
  rintro l i x Y W vs K hx hI hlt ⟨p,q,rfl,hp,hq⟩ hK
  have HK:=Lib.hid hK
  have HI:=Lib.hid hI
  clear hK hI hlt hp hq
  gi_wp2
  exact HK.out _ _ (by go_grown) ⟨_,_,_,rfl,heap_alloc_new W _⟩
 case body=>
  rintro l t ⟨i,k⟩ a' Y W hl ⟨r,hr⟩ hx hI hlt ⟨p6,p,q,rfl,hc6⟩
  obtain ⟨hi,hk,ht⟩:=pairsL_at hx
  simp only at hi hk ht hc6
  obtain rfl:Y=(fun k=>k=w2.heap.size+1):=funext fun k=>propext (hI.Y k)
  have hir:i < rs.length:=by rw [HRL.out];exact hi
  have hig:i < (gridZ xs zs).length:=by rw [HGL.out];exact hi
  have hkg:=HGRL.out i hi k hk
  have hkh:k < (rx rs i).length:=by rw [HHL.out i hi];exact hk
  have p60:W.cell? ⟨p6,0,none⟩=some (.int .i64 i):=by rw [cell_of_row W p6 0 _ _ _ hc6];rfl
  have p61:W.cell? ⟨p6,1,none⟩=some (.int .i64 k):=by rw [cell_of_row W p6 1 _ _ _ hc6];rfl
  have a0:W.cell? ⟨w2.heap.size+1,0,none⟩=some (.int .i64 (volT (gridZ xs zs) rs zs.length t)):=by rw [cell_of_row W _ 0 _ _ _ hI.cell];rfl
  have a1:W.frozen? ⟨w2.heap.size+1,0,none⟩=false:=by have:=hI.cell;simp [World.frozen?, this]
  have r4:=hI.cellAt c4 (by show w2.heap.size≠_;omega)
  have r2:=hI.cellAt v2 (by show w.heap.size≠_;omega)
  have g0:=hI.cellAt (RG.out.cells_at hig).2 (by show G≠_;omega)
  obtain ⟨bh,oh,rfl,hbh,hch⟩:=HT3.out.cells (by omega)
  have h0:=hI.cellAt (hch i hir) (by show bh≠_;omega)
  obtain ⟨Ag,cg,eg,hcg,hmg,hrg⟩:=RG.out.each i hig
  obtain ⟨bg,og,rfl,hbg,hcgi⟩:=hrg.ints (by omega)
  have g1:=hI.cellAt (hcgi k hkg) (by show bg≠_;omega)
  obtain ⟨Ah,ch,eh,hch',hmh,hrh⟩:=HT3.out.each i hir
  obtain ⟨bb,ob,rfl,hbb,hchi⟩:=hrh.ints (by omega)
  have h1:=hI.cellAt (hchi k hkh) (by show bb≠_;omega)
  rw [eg] at g0
  rw [eh] at h0
  have HI:=Lib.hid hI
  have HT:=Lib.hid ht
  clear hI hlt hr hl hx ht hc6 hch hcgi hchi hrg hrh eg eh
  refine wpIn_block ?_
  dsimp only
  (refine region_tail_round l 23 (by kernel_rfl) (by kernel_rfl) (by kernel_rfl) ?_)
  intro K hK
  have HK:=Lib.hid hK
  clear hK
  simp only [List.take_succ_cons,List.take_zero,List.drop_succ_cons,List.drop_zero]
  repeat still_step
  try refine wpStill_nil ?_
  show wpList _ _ _ _ _ (W.drewN 1)
  go_wp2
  refine HK.out _ _ ?_
  have hfin:=HI.out.set (volT_succ (gridZ xs zs) rs hk HT.out)
  simp only [IntWalk.i64_left] at hfin
  exact ⟨_,hfin.1,hfin.2⟩
 case done=>
  intro Y W hI hD
  obtain rfl:Y=(fun k=>k=w2.heap.size+1):=funext fun k=>propext (hI.Y k)
  have a0:W.cell? ⟨w2.heap.size+1,0,none⟩=some (.int .i64 (volT (gridZ xs zs) rs zs.length (pairsL xs.length zs.length).length)):=by rw [cell_of_row W _ 0 _ _ _ hI.cell];rfl
  have HI:=Lib.hid hI
  have HD:=Lib.hid hD
  clear hI hD
  gi_wp2
  refine ⟨by simp,.inl ⟨_,_,rfl,run_takeDeferred HD.out,?_⟩⟩
  have e:volT (gridZ xs zs) rs zs.length (pairsL xs.length zs.length).length=volZ xs zs rs:=by rw [Qcj];rfl
  refine ⟨_,results_tmp2 rfl _ _ _,by rw [←e];rfl,?_⟩
  have hI:=HI.out
  have hs:=hI.size
  have hb:Below w.heap.size w W:=HB0.out.trans ⟨hI.os,hI.tape,hI.output,hI.size,fun k hk=>hI.block k (by omega) (by omega)⟩
  exact ((Keep.refl W0.heap.size (fun _=>False) W).putObj (l:=W0.heap.size) (Nat.le_refl _) (fun h=>h) (.deferred none)).below (by omega) hb (by omega)
def litZ (xs zs:List Int) (rs:List (List Int)):Int:=volZ xs zs rs / 1296000000
theorem Litres_yes {xs zs:List Int} {rs:List (List Int)} (hr:Qav xs zs rs=true) (hv0: -9223372036854775807≤volZ xs zs rs) (hv1:volZ xs zs rs≤9223372036854775807) (A1:Option Addr) (c1:Nat) (A2:Option Addr) (c2:Nat) (A3:Option Addr) (c3:Nat) (vs:List Value) (w:World) (h:TD w w.heap.size xs zs rs A1 c1 A2 c2 A3 c3 vs):
  Calls Tryz.prog 33 #[.agg #[.slice A1 xs.length c1,.slice A2 zs.length c2,.slice A3 rs.length c3]] w fun e w'=>e= .returned (.tuple #[.int .i64 (litZ xs zs rs),.int .i64 0])∧Below w.heap.size w w':=by
 have H:=Lib.hid h
 have HR:=Lib.hid hr
 have HV0:=Lib.hid hv0
 have HV1:=Lib.hid hv1
 clear h hr hv0 hv1
 go_enter Tryz.func33,Tryz.ntmps33
 go_wp2_with (first | (go_at_call 58;(with_reducible refine (Volume_yes HR.out A1 c1 A2 c2 A3 c3 vs _ ((H.out.keep (by repeat' (first | (with_reducible exact Below.refl _ _) | (with_reducible assumption) | (refine Qa (by assumption) ?_ ?_) | (with_reducible refine Qaa ?_ _) | (with_reducible refine Below.drew ?_) | (with_reducible refine Below.alloc ?_ ?_ _) | (with_reducible refine Below.setCell ?_ ?_ _) | go_size)) (Nat.le_refl _)).more (by simp))).mono ?_);rintro e w1 ⟨rfl,hb1⟩) | (go_at_call 53;(with_reducible refine (floor_any _ _ HV0.out HV1.out (by omega) (by omega) _).mono ?_);rintro e w' ⟨rfl,rfl⟩))
 go_returns
 refine ⟨rfl,?_⟩
 repeat' (first | (with_reducible exact Below.refl _ _) | (with_reducible assumption) | (refine Qa (by assumption) ?_ ?_) | (with_reducible refine Qaa ?_ _) | (with_reducible refine Below.drew ?_) | (with_reducible refine Below.alloc ?_ ?_ _) | (with_reducible refine Below.setCell ?_ ?_ _) | go_size)
end Go.Proofs.YtdlmdaononclgaaGreatDoor
namespace Go.Proofs.YtdlmdaononclgaaGreatDoor
open Go.RowKit
set_option linter.unusedVariables false
set_option linter.unusedSimpArgs false
structure Kd (S:World→Prop) where
 w:World
 ok:S w
def Bl (W w:World):Prop:=Below W.heap.size W w
instance Kd.inst (W:World):Nonempty (Kd (Bl W)):=⟨⟨W,Below.refl _ W⟩⟩
variable {P:Program}
theorem Kd.cell {W:World} {a:Addr} {v:Value} (h:W.cell? a=some v):∀ k:Kd (Bl W),k.w.cell? a=some v:=fun k=>cell_later k.ok h
theorem Below.drewN' {B:Nat} {a w:World} (h:Below B a w) (n:Nat):Below B a (w.drewN n):=⟨h.os,h.tape,h.output,h.size,h.block⟩
theorem kept_drew {W:World} {f:FuncId} {args:Array Value} {k:Kd (Bl W)} {v:Value} (h:Calls P f args k.w fun e w'=>e= .returned v∧∃ n,w'=k.w.drewN n):
  Calls P f args k.w fun e w''=>e= .returned v∧∃ m:Kd (Bl W),w''=m.w:=
 h.mono fun _ w' ⟨he,n,hb⟩=>⟨he,⟨w',by subst hb;exact Below.drewN' k.ok n⟩,rfl⟩
theorem region_kept {id:Nat} {Q:Exit→Act→World→Prop} {a:Act} {w:World} {l:List Oper} (hm:P.follows .mixedOrders=true) (hB:Region.lexB .any l.toArray=true)
  (h:wpQuiet P l.toArray (fun w'=>∃ k:Kd (Bl w),w'=k.w) (fun a'=>∀ w',(∃ k:Kd (Bl w),w'=k.w)→Q .normal a' w') l a):(Code.region id l.toArray true).wp P Q a w:=
 wp_region_quiet (C:=fun w'=>∃ k:Kd (Bl w),w'=k.w) hm hB ⟨⟨_,Below.drewN' (Below.refl _ w) 1⟩,rfl⟩ (by simpa using h)
end Go.Proofs.YtdlmdaononclgaaGreatDoor
namespace Go.Proofs.YtdlmdaononclgaaGreatDoor
open Go.RowKit
set_option linter.unusedVariables false
set_option linter.unusedSimpArgs false
theorem bneN_false {a b:Nat} (h:a=b):(((a:Int) != (b:Int))=false):=by simp [h]
theorem bneN_true {a b:Nat} (h: ¬ a=b):(((a:Int) != (b:Int))=true):=by simp;omega
theorem refisTable_is {xs zs:List Int} {r:Bool} (hr:gridB xs zs=r) (A:Option Addr) (c:Nat) (A2:Option Addr) (c2:Nat) (hc:xs.length≤c) (hm:c≤9223372036854775807) (hc2:zs.length≤c2) (hm2:c2≤9223372036854775807) (w:World) {B B2:Nat} (h:RD w B A (ints xs)) (h2:RD w B2 A2 (ints zs)):
  Calls Tryz.prog 46 #[.slice A xs.length c,.slice A2 zs.length c2] w fun e w'=>e= .returned (.bool r)∧∃ k,w'=w.drewN k:=by
 obtain ⟨p1,h1⟩:∃ p,okP 9 100000 xs=p:=⟨_,rfl⟩
 obtain ⟨p2,h3⟩:∃ p,okP 7 15000 zs=p:=⟨_,rfl⟩
 have C1:=Lib.hid (rising_is h1 A c w hc hm h)
 have C2:Hid (∀ k,Calls Tryz.prog 66 #[.slice A2 zs.length c2,.int .i64 7,.int .i64 15000] (w.drewN k) fun e w'=>e= .returned (.bool p2)∧∃ q,w'=(w.drewN k).drewN q):=Lib.hid (fun k=>rising_is h3 A2 c2 _ hc2 hm2 (h2.keep (Qaa (Below.refl _ _) k) (Nat.le_refl _):RD (w.drewN k) B2 A2 (ints zs)))
 have hb:(p1 && p2)=r:=by rw [←hr, ←h1, ←h3];rfl
 clear h1 h3 h h2 hr
 cases p1
 ·obtain rfl:r=false:=by simpa using hb.symm
  clear hb
  go_enter Tryz.func46,Tryz.ntmps46
  go_wp2_with (go_at_call 66;(with_reducible refine C1.out.mono ?_);rintro e w' ⟨rfl,k1,rfl⟩)
  go_ret
  exact ⟨rfl,k1,rfl⟩
 ·obtain rfl:r=p2:=by simpa using hb.symm
  clear hb
  go_enter Tryz.func46,Tryz.ntmps46
  go_wp2_with fail
  refine C1.out.mono ?_
  rintro e w' ⟨rfl,k1,rfl⟩
  go_wp2_with fail
  refine (C2.out k1).mono ?_
  rintro e w' ⟨rfl,k2,rfl⟩
  go_wp2
  go_ret
  exact ⟨rfl,k1+k2,by first | rfl | rw [World.drewN_drewN]⟩
def tabE (xs zs:List Int) (rs:List (List Int)):Int:=if Qav xs zs rs=true then 0 else 13
theorem tabE_grid {xs zs:List Int} {rs:List (List Int)} (h:gridB xs zs=false):tabE xs zs rs=13:=by unfold tabE Qav;rw [h];rfl
theorem tabE_len {xs zs:List Int} {rs:List (List Int)} (h:rs.length≠xs.length):tabE xs zs rs=13:=by
 have:Qav xs zs rs=false:=by unfold Qav;rw [decide_eq_false h];simp
 unfold tabE;rw [this];rfl
theorem tabE_row {xs zs:List Int} {rs:List (List Int)} {i:Nat} (hi:i < rs.length) (h:Qbq zs.length (rx rs i)=true):tabE xs zs rs=13:=by
 have:Qav xs zs rs=false:=by unfold Qav;rw [anyR_yes i hi h];simp
 unfold tabE;rw [this];rfl
theorem tabE_yes {xs zs:List Int} {rs:List (List Int)} (h1:gridB xs zs=true) (h2:rs.length=xs.length) (h:∀ i,i < rs.length→Qbq zs.length (rx rs i)=false):tabE xs zs rs=0:=by
 have:Qav xs zs rs=true:=by unfold Qav;rw [h1,decide_eq_true h2,anyR_no h];rfl
 unfold tabE;rw [if_pos this]
theorem badH_no {n:Int} (h:badH n=false): ¬ n < 0∧¬ 20000 < n:=by
 simp only [badH,Qbt,Bool.not_eq_false',Bool.and_eq_true,decide_eq_true_eq] at h;omega
theorem badH_yes {n:Int} (h:badH n=true):n < 0∨(¬ n < 0∧20000 < n):=by
 simp only [badH,Qbt,Bool.not_eq_true',Bool.and_eq_false_iff,decide_eq_false_iff_not] at h;omega
theorem rowBad_len {m:Nat} {l:List Int} (h:l.length≠m):Qbq m l=true:=by unfold Qbq;rw [decide_eq_false h];rfl
theorem rowBad_at {m:Nat} {l:List Int} {j:Nat} (hj:j < l.length) (h:badH (ix l j)=true):Qbq m l=true:=by unfold Qbq;rw [anyB_yes j hj h];simp
theorem rowBad_ok {m:Nat} {l:List Int} (hl:l.length=m) (h:∀ j,j < l.length→badH (ix l j)=false):Qbq m l=false:=by unfold Qbq;rw [decide_eq_true hl,anyB_no h];rfl
set_option maxHeartbeats 2000000 in
set_option maxRecDepth 10000 in
theorem Qde {xs zs:List Int} {rs:List (List Int)} (A1:Option Addr) (c1:Nat) (A2:Option Addr) (c2:Nat) (A3:Option Addr) (c3:Nat) (vs:List Value) (w:World) (h:TD w w.heap.size xs zs rs A1 c1 A2 c2 A3 c3 vs):
  Calls Tryz.prog 18 #[.agg #[.slice A1 xs.length c1,.slice A2 zs.length c2,.slice A3 rs.length c3]] w fun e w'=>e= .returned (.int .i64 (tabE xs zs rs))∧Below w.heap.size w w':=by
 obtain ⟨r,hr⟩:∃ r,gridB xs zs=r:=⟨_,rfl⟩
 have C:Hid (∀ W,Below w.heap.size w W→Calls Tryz.prog 46 #[.slice A1 xs.length c1,.slice A2 zs.length c2] W fun e w'=>e= .returned (.bool r)∧∃ k,w'=W.drewN k):=Lib.hid (fun W hB=>refisTable_is hr A1 c1 A2 c2 h.hc1 h.hm1 h.hc2 h.hm2 W (h.rd1.keep hB (Nat.le_refl _)) (h.rd2.keep hB (Nat.le_refl _)))
 have HR:=Lib.hid hr
 have HT:=Lib.hid h
 have hc3:=h.hc3
 have hm3:=h.hm3
 have hc2:=h.hc2
 have hm2:=h.hm2
 clear h hr
 cases r
 ·have e:=tabE_grid (rs:=rs) HR.out
  rw [e]
  clear e
  go_enter Tryz.func18,Tryz.ntmps18
  go_wp2_with (go_at_call 46;(with_reducible refine (C.out _ (Below.alloc (Below.refl _ _) (Nat.le_refl _) _)).mono ?_);rintro e w1 ⟨rfl,k1,rfl⟩)
  go_ret
  exact ⟨rfl,by repeat' (first | (with_reducible exact Below.refl _ _) | (with_reducible assumption) | (refine Qa (by assumption) ?_ ?_) | (with_reducible refine Qaa ?_ _) | (with_reducible refine Below.drew ?_) | (with_reducible refine Below.alloc ?_ ?_ _) | (with_reducible refine Below.setCell ?_ ?_ _) | go_size)⟩
 ·by_cases hl:rs.length=xs.length
  ·have e1:=bneN_false hl
   have HL:=Lib.hid hl
   have hz2:2≤zs.length:=by
    have:=HR.out
    simp only [gridB,Bool.and_eq_true] at this
    exact (okP_true this.2).two
   clear hl
   go_enter Tryz.func18,Tryz.ntmps18
   go_wp2_with (go_at_call 46;(with_reducible refine (C.out _ (Below.alloc (Below.refl _ _) (Nat.le_refl _) _)).mono ?_);rintro e w1 ⟨rfl,k1,rfl⟩)
   generalize hW:(w.alloc (.cells #[.slice A1 xs.length c1,.slice A2 zs.length c2,.slice A3 rs.length c3] 26)).drewN k1=W1
   have hB:Below w.heap.size w W1:=by rw [←hW];repeat' (first | (with_reducible exact Below.refl _ _) | (with_reducible assumption) | (refine Qa (by assumption) ?_ ?_) | (with_reducible refine Qaa ?_ _) | (with_reducible refine Below.drew ?_) | (with_reducible refine Below.alloc ?_ ?_ _) | (with_reducible refine Below.setCell ?_ ?_ _) | go_size)
   have d1:W1.cell? ⟨w.heap.size,1,none⟩=some (.slice A2 zs.length c2):=by rw [←hW];simp [go_sem]
   have d2:W1.cell? ⟨w.heap.size,2,none⟩=some (.slice A3 rs.length c3):=by rw [←hW];simp [go_sem]
   have HB:=Lib.hid hB
   clear hW hB e1 C
   go_loopw [3] (fun x wr=>∃ k q:Nat,k≤rs.length∧x= .int .i64 k∧wr=W1.drewN q∧∀ i,i < k→Qbq zs.length (rx rs i)=false) (fun x _=>rs.length - (intOf x).toNat)
   case atStart=>exact ⟨0,0,by omega,rfl,rfl,fun i hi=>by omega⟩
   case round=>
    obtain ⟨k,q,hk,rfl,rfl,hok⟩:=hrel
    have OK:=Lib.hid hok
    clear hok
    by_cases hk':k < rs.length
    ·obtain ⟨b3,o3,rfl,hb3,hc3'⟩:=HT.out.rd3.cells (by omega)
     obtain ⟨Ai,ci,hv,hci,hmi,hri⟩:=HT.out.rd3.each k hk'
     have x3:=cell_later HB.out (hc3' k hk')
     rw [hv] at x3
     have HRI:=Lib.hid hri
     clear hc3' hv hri
     by_cases hrl:(rx rs k).length=zs.length
     ·have e2:=bneN_false hrl
      rw [hrl] at x3 hci e2
      have HRL:=Lib.hid hrl
      clear hrl
      obtain ⟨bi,oi,rfl,hbi,hcl⟩:=HRI.out.ints (by have:=HRL.out;omega)
      have HCL:=Lib.hid hcl
      clear hcl
      go_wp2
      go_quiet (fail)
      go_wp2
      obtain ⟨wo,hwo⟩:∃ wo:World,wo=W1.drewN (q+nq):=⟨_,rfl⟩
      go_loopw [4] (fun x wr=>∃ j:Nat,j≤zs.length∧x= .int .i64 j∧wr=W1.drewN (q+nq)∧∀ i,i < j→badH (ix (rx rs k) i)=false) (fun x _=>zs.length - (intOf x).toNat)
      case atStart=>exact ⟨0,by omega,rfl,by first | rfl | rw [World.drewN_drewN],fun i hi=>by omega⟩
      case round=>
       obtain ⟨j,hj,rfl,rfl,hok⟩:=hrel
       have OKJ:=Lib.hid hok
       clear hok
       by_cases hj':j < zs.length
       ·have y3:=cell_later HB.out (HCL.out j (by have:=HRL.out;omega))
        cases hbad:badH (ix (rx rs k) j) with
        | false=>
          obtain ⟨f1,f2⟩:=badH_no hbad
          have HBD:=Lib.hid hbad
          clear hbad
          go_wp2
          go_roundw
          case rel=>exact ⟨j+1,by omega,by go_num,by first | trivial | rfl,fun i hi=>(by rcases (by omega:i < j∨i=j) with h | rfl;exact OKJ.out i h;exact HBD.out)⟩
          case measure=>simp [intOf];omega
        | true=>
          have e3:=tabE_row (xs:=xs) hk' (rowBad_at (m:=zs.length) (j:=j) (by have:=HRL.out;omega) hbad)
          have E3:=Lib.hid e3
          rcases badH_yes hbad with f1 | ⟨f1,f2⟩
          ·clear hbad e3
           go_wp2
           go_ret
           exact ⟨by first | (rw [E3.out];done) | (rw [E3.out];rfl) | simp [E3.out],Qaa HB.out _⟩
          ·clear hbad e3
           go_wp2
           go_ret
           exact ⟨by first | (rw [E3.out];done) | (rw [E3.out];rfl) | simp [E3.out],Qaa HB.out _⟩
       ·obtain rfl:j=zs.length:=by omega
        have hrow:=rowBad_ok (m:=zs.length) (l:=rx rs k) HRL.out (fun i hi=>OKJ.out i (by have:=HRL.out;omega))
        have HROW:=Lib.hid hrow
        clear hrow
        go_wp2
        go_roundw
        case rel=>exact ⟨k+1,q+nq,by omega,by go_num,rfl,fun i hi=>(by rcases (by omega:i < k∨i=k) with h | rfl;exact OK.out i h;exact HROW.out)⟩
        case measure=>simp [intOf];omega
     ·have e2:=bneN_true hrl
      have e3:=tabE_row (xs:=xs) hk' (rowBad_len hrl)
      have E3:=Lib.hid e3
      obtain ⟨li,hli⟩:∃ l,(rx rs k).length=l:=⟨_,rfl⟩
      rw [hli] at x3 e2
      clear e3 hrl hli
      go_wp2
      go_quiet (fail)
      go_wp2
      go_ret
      exact ⟨by first | (rw [E3.out];done) | (rw [E3.out];rfl) | simp [E3.out],Qaa (Qaa HB.out _) _⟩
    ·obtain rfl:k=rs.length:=by omega
     have e3:=tabE_yes (xs:=xs) (zs:=zs) (rs:=rs) HR.out HL.out (fun i hi=>OK.out i hi)
     have E3:=Lib.hid e3
     clear e3
     go_wp2
     go_ret
     exact ⟨by first | (rw [E3.out];done) | (rw [E3.out];rfl) | simp [E3.out],Qaa HB.out _⟩
  ·have e:=tabE_len (zs:=zs) hl
   rw [e]
   have e1:=bneN_true hl
   clear e hl
   go_enter Tryz.func18,Tryz.ntmps18
   go_wp2_with (go_at_call 46;(with_reducible refine (C.out _ (Below.alloc (Below.refl _ _) (Nat.le_refl _) _)).mono ?_);rintro e w1 ⟨rfl,k1,rfl⟩)
   go_ret
   exact ⟨rfl,by repeat' (first | (with_reducible exact Below.refl _ _) | (with_reducible assumption) | (refine Qa (by assumption) ?_ ?_) | (with_reducible refine Qaa ?_ _) | (with_reducible refine Below.drew ?_) | (with_reducible refine Below.alloc ?_ ?_ _) | (with_reducible refine Below.setCell ?_ ?_ _) | go_size)⟩
end Go.Proofs.YtdlmdaononclgaaGreatDoor
namespace Go.Proofs.YtdlmdaononclgaaGreatDoor
open Go.RowKit
set_option linter.unusedVariables false
set_option linter.unusedSimpArgs false
def OwnR (w:World) (base:Nat) (v:Value) (vs:List Value):Prop:=w.ownsRow base 22 1 v vs.length vs
theorem OwnR.nil (w:World) (base:Nat):OwnR w base (.slice none 0 0) []:=World.ownsRow_nil w base _ _
theorem OwnR.form {w:World} {base:Nat} {v:Value} {vs:List Value} (h:OwnR w base v vs):
  ∃ A cap,v= .slice A vs.length cap∧vs.length≤cap∧cap≤9223372036854775807∧RD w w.heap.size A vs∧(∀ b,v.ownBlock=some b→base≤b∧b < w.heap.size):=by
 rcases h.2 with ⟨rfl,hn⟩ | ⟨g,cap,cur,rfl,hb,hg,hn,hm,hs,ht⟩
 ·have:vs=[]:=List.eq_nil_of_length_eq_zero hn
  subst this
  exact ⟨none,0,rfl,by simp,by omega,.inl rfl,(fun b e=>by cases e)⟩
 ·have hlt:g < w.heap.size:=(Array.getElem?_eq_some_iff.1 hg).1
  refine ⟨some ⟨g,0,none⟩,cap,rfl,hn,by unfold maxLen at hm;omega,?_,(fun b e=>by simp only [Value.ownBlock,Option.some.injEq] at e;omega)⟩
  by_cases h0:vs.length=0
  ·left;exact List.eq_nil_of_length_eq_zero h0
  ·refine .inr ⟨g,0,rfl,hlt,fun j v hv=>?_⟩
   have:=h.cells (g:=g) rfl j v hv
   rwa [Addr.add_lit] at this
theorem OwnR.kept {w w':World} {base:Nat} {v:Value} {vs:List Value} (h:OwnR w base v vs) {B:Nat} (hb:Below B w w') (hB:w.heap.size≤B):OwnR w' base v vs:=by
 refine ⟨h.1,?_⟩
 rcases h.2 with hn | ⟨g,cap,cur,rfl,h1,hg,rest⟩
 ·exact .inl hn
 ·exact .inr ⟨g,cap,cur,rfl,h1,(hb.block g (by have:=(Array.getElem?_eq_some_iff.1 hg).1;omega)).trans hg,rest⟩
theorem OwnR.kind {w:World} {base:Nat} {v:Value} {vs:List Value} (h:OwnR w base v vs) {b:Nat} (hb:v.ownBlock=some b):∃ cs,w.heap[b]? =some (.cells cs 22 (0,0)):=by
 rcases h.2 with ⟨rfl,_⟩ | ⟨g,cap,cur,rfl,_,hg,_⟩
 ·cases hb
 ·simp only [Value.ownBlock,Option.some.injEq] at hb
  subst hb
  exact ⟨_,hg⟩
theorem OwnI.less {w:World} {base base':Nat} {v:Value} {xs:List Int} (h:OwnI w base v xs) (hb:base'≤base):OwnI w base' v xs:=by
 refine ⟨h.1,?_⟩
 rcases h.2 with hn | ⟨g,cap,cur,rfl,h1,rest⟩
 ·exact .inl hn
 ·exact .inr ⟨g,cap,cur,rfl,by omega,rest⟩
structure RO (w:World) (base:Nat) (v:Value) (vs:List Value) (rs:List (List Int)):Prop where
 own:OwnR w base v vs
 len:vs.length=rs.length
 each:∀ i,i < rs.length→OwnI w base (vx vs i) (rx rs i)
theorem RO.nil (w:World) (base:Nat):RO w base (.slice none 0 0) [] []:=⟨OwnR.nil w base,rfl,fun i h=>by simp at h⟩
theorem RO.kept {w w':World} {base:Nat} {v:Value} {vs:List Value} {rs:List (List Int)} (h:RO w base v vs rs) {B:Nat} (hb:Below B w w') (hB:w.heap.size≤B):RO w' base v vs rs:=
 ⟨h.own.kept hb hB,h.len,fun i hi=>(h.each i hi).kept hb hB⟩
theorem OwnI.at_block {w:World} {base:Nat} {v:Value} {xs:List Int} (h:OwnI w base v xs) {b:Nat} (hb:v.ownBlock=some b):base≤b∧b < w.heap.size:=by
 obtain ⟨_,_,_,_,_,_,_,h2⟩:=h.form
 exact h2 b hb
theorem RO.push {W W':World} {base:Nat} {v v' u:Value} {vs:List Value} {rs:List (List Int)} {ys:List Int} {o:Obj} (h:RO W base v vs rs) (hr:OwnI W base u ys) (hg:(W.alloc o).grownBy W' v.ownBlock) (ho:OwnR W' base v' (vs ++ [u])):
  RO W' base v' (vs ++ [u]) (rs ++ [ys]):=by
 have keep:∀ (x:Value) (xs:List Int),OwnI W base x xs→OwnI W' base x xs:=fun x xs hx=>hx.of_block (fun b hb=>by
  have hlt:=hx.at_block hb
  have hne:v.ownBlock≠some b:=fun e=>by
   obtain ⟨c1,h1⟩:=hx.kind hb
   obtain ⟨c2,h2⟩:=h.own.kind e
   rw [h1] at h2
   simp only [Option.some.injEq,Obj.cells.injEq] at h2
   exact absurd h2.2.1 (by decide)
  rw [hg.block b (by rw [World.size_alloc];omega) (fun e=>hne e.symm)]
  exact Below.heap_alloc W o b hlt.2)
 refine ⟨ho,by simp [h.len],fun i hi=>?_⟩
 simp only [List.length_append,List.length_cons,List.length_nil] at hi
 have hl:=h.len
 by_cases e:i < rs.length
 ·have e1:vx (vs ++ [u]) i=vx vs i:=by simp [vx,List.getD,List.getElem?_append_left (show i < vs.length by omega)]
  have e2:rx (rs ++ [ys]) i=rx rs i:=by simp [rx,List.getD,List.getElem?_append_left e]
  rw [e1,e2]
  exact keep _ _ (h.each i e)
 ·obtain rfl:i=rs.length:=by omega
  have e1:vx (vs ++ [u]) rs.length=u:=by rw [←hl];simp [vx,List.getD]
  have e2:rx (rs ++ [ys]) rs.length=ys:=by simp [rx,List.getD]
  rw [e1,e2]
  exact keep _ _ hr
theorem RO.rr {w:World} {base:Nat} {v:Value} {vs:List Value} {rs:List (List Int)} (h:RO w base v vs rs) {n:Nat} (hn:rs.length=n):
  ∃ A cap,v= .slice A n cap∧n≤cap∧cap≤9223372036854775807∧RR w w.heap.size A vs rs:=by
 obtain ⟨A,cap,rfl,h1,h2,h3,_⟩:=h.own.form
 have hl:=h.len
 subst hn
 exact ⟨A,cap,by rw [hl],by omega,h2,h.len,h3,fun i hi=>(h.each i hi).sl⟩
variable {w:World}
theorem wpList_appR {ops:Array Oper} {rest:List Oper} {o:Oper} {a:Act} {Q:Exit→Act→World→Prop} (hgd:o.guard=none) (s x:Operand)
  (ho:o.op= .call {callee:=.builtin .append,args:= #[s,x],argTypes:= #[24,24]})
  (base:Nat) (v:Value) (vs:List Value) (hs:a.eval s=v) (hown:OwnR w base v vs) (g c:Nat) (A:Option Addr) (n k:Nat) (hx:a.eval x= .slice (some ⟨g,0,none⟩) 1 c) (hc:w.cell? ⟨g,0,none⟩=some (.slice A n k))
  (hlen:vs.length≤1000000) (hbase:base≤w.heap.size)
  (h:∀ v' w',OwnR w' base v' (vs ++ [.slice A n k])→w.grownBy w' v.ownBlock→wpList Tryz.prog ops Q rest (a.put o.dst v') w'):wpList Tryz.prog ops Q (o :: rest) a w:=by
 obtain ⟨i0,hi,hz0,hz1,hz2⟩:=info_parts infoInts
 refine wpList_plain hgd fun K hK=>?_
 obtain ⟨v',w',hrun,h2,h3,_⟩:=run_append_own (P:=Tryz.prog) w base 24 o.type 22 i0 _ 1 24 Tryz.underlying24 hi hz0 hz1 hz2 rfl (by decide) v vs.length vs hown
  ⟨g,0,none⟩ 1 c [.slice A n k] rfl (fun j u hu=>by
    match j,hu with
    | 0,hu=>simp at hu;subst hu;exact hc) (by simp [Value.oneCell']) (by unfold maxLen;omega) (by omega) hbase
 unfold Oper.wp execOp
 simp only [ho,resolve,invoke,builtin,Sem.run_bind,Sem.run_pure,Result.andThen_ok,List.map_toArray,List.map_cons,List.map_nil,hs,hx,hrun]
 refine hK _ _ (h v' w' ?_ h3)
 unfold OwnR
 rw [List.length_append]
 simpa using h2
end Go.Proofs.YtdlmdaononclgaaGreatDoor
namespace Go.Proofs.YtdlmdaononclgaaGreatDoor
open Go.RowKit
set_option linter.unusedVariables false
set_option linter.unusedSimpArgs false
end Go.Proofs.YtdlmdaononclgaaGreatDoor
namespace Go.Proofs.YtdlmdaononclgaaGreatDoor
open Go.RowKit
set_option linter.unusedVariables false
set_option linter.unusedSimpArgs false
end Go.Proofs.YtdlmdaononclgaaGreatDoor
