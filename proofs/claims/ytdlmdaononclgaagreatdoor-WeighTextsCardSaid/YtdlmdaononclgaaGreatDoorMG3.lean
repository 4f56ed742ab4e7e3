import Derived.Test.YtdlmdaononclgaaGreatDoorMG2
import Derived.Test.YtdlmdaononclgaaGreatDoorMG1
import Derived.Deep.RegionHeld3
import Derived.Outline
import Derived.Deep.Cut
import Derived.Deep.CutRange
import Derived.Deep.RegionLawGrows
import Derived.Maps.OwnIn
import Derived.RangeFuncBox
import Derived.Shelf.Abstract
namespace Go.Proofs.YtdlmdaononclgaaGreatDoor
open Go.RowKit
set_option linter.unusedVariables false
set_option linter.unusedSimpArgs false
theorem mod_is {n m r:Int} (h:n % m=r) (h0: -9223372036854775808≤n) (h1:n≤9223372036854775807) (m0:0 < m) (m1:m≤4611686018427387904) (w:World):
  Calls Tryz.prog 22 #[.int .i64 n,.int .i64 m] w fun e w'=>e= .returned (.int .i64 r)∧w=w':=by
 subst h;exact mod_any n m h0 h1 m0 m1 w
def atZ (xs:List Int) (i:Int):Int:=if xs.length=0 then 0 else ix xs (i % (xs.length:Int)).toNat
theorem atZ_bd {xs:List Int} {i:Int} (bd:∀ j, -9223372036854775808≤ix xs j∧ix xs j≤9223372036854775807): -9223372036854775808≤atZ xs i∧atZ xs i≤9223372036854775807:=by
 unfold atZ;split
 ·omega
 ·exact bd _
set_option maxHeartbeats 1000000 in
theorem At_any (xs:List Int) (A:Option Addr) (c:Nat) (i:Int) (i0: -9223372036854775808≤i) (i1:i≤9223372036854775807) (hc:xs.length≤c) (hm:c≤17592186043904) (w:World) {B:Nat} (h:RD w B A (ints xs)):
  Calls Tryz.prog 23 #[.slice A xs.length c,.int .i64 i] w fun e w'=>e= .returned (.int .i64 (atZ xs i))∧w=w':=by
 by_cases h0:xs.length=0
 ·have hr:atZ xs i=0:=if_pos h0
  rw [hr]
  have e1:((xs.length:Int) == 0)=true:=by simp [h0]
  have e2:(xs.length == 0)=true:=by simp [h0]
  have H0:=Lib.hid h0
  clear h0 hr h
  go_enter Tryz.func23,Tryz.ntmps23
  go_wp2
  go_ret
  exact ⟨rfl,rfl⟩
 ·obtain ⟨k,hk⟩:=Int.eq_ofNat_of_zero_le (Int.emod_nonneg i (show ((xs.length:Nat):Int)≠0 by omega))
  have hlt:=Int.emod_lt_of_pos i (show (0:Int) < (xs.length:Nat) by omega)
  rw [hk] at hlt
  have hkl:k < xs.length:=by omega
  have hr:atZ xs i=ix xs k:=by rw [atZ,if_neg h0,hk];rfl
  rw [hr]
  obtain ⟨b,off,rfl,hb,hcell⟩:=h.ints (by omega)
  have y0:=hcell k hkl
  have e1:((xs.length:Int) == 0)=false:=beq_eq_false_iff_ne.2 (by omega)
  have e2:(xs.length == 0)=false:=beq_eq_false_iff_ne.2 (by omega)
  have hpos:(0:Int) < (xs.length:Nat):=by omega
  have HK:=Lib.hid hk
  clear hk hr h0 h hcell
  go_enter Tryz.func23,Tryz.ntmps23
  go_wp2_with (go_at_call 22;(with_reducible refine (mod_is HK.out i0 i1 hpos (by omega) _).mono ?_);rintro e w' ⟨rfl,rfl⟩)
  go_ret
  exact ⟨rfl,rfl⟩
theorem At_is {xs:List Int} {i r:Int} (hr:atZ xs i=r) (A:Option Addr) (c:Nat) (i0: -9223372036854775808≤i) (i1:i≤9223372036854775807) (hc:xs.length≤c) (hm:c≤17592186043904) (w:World) {B:Nat} (h:RD w B A (ints xs)):
  Calls Tryz.prog 23 #[.slice A xs.length c,.int .i64 i] w fun e w'=>e= .returned (.int .i64 r)∧w=w':=by
 subst hr;exact At_any xs A c i i0 i1 hc hm w h
structure PlP (many most:Int) (ps:List Int):Prop where
 one:1≤ps.length
 many:ps.length≤many
 lo:0≤ix ps 0
 hi:ix ps 0≤49
 step:∀ j,j+1 < ps.length→1≤dx ps j∧dx ps j≤3 * most
theorem Qch {xs ys:List Int} {j:Nat} (h:j < xs.length):ix (xs ++ ys) j=ix xs j:=by
 simp [ix,List.getD,List.getElem?_append_left h]
theorem ix_append_at (xs:List Int) (y:Int):ix (xs ++ [y]) xs.length=y:=by simp [ix,List.getD]
theorem PlP.snoc {many most:Int} {ps:List Int} (h:PlP many most ps) (hm:(ps.length:Int) < many) {y:Int} (h1:1≤y - ix ps (ps.length - 1)) (h2:y - ix ps (ps.length - 1)≤3 * most):PlP many most (ps ++ [y]):=by
 have h0:=h.one
 refine ⟨by simp,by simp;omega,?_,?_,fun j hj=>?_⟩
 ·rw [Qch (by omega)];exact h.lo
 ·rw [Qch (by omega)];exact h.hi
 ·simp only [List.length_append,List.length_cons,List.length_nil] at hj
  by_cases e:j+1 < ps.length
  ·unfold dx
   rw [Qch e,Qch (by omega)]
   exact h.step j e
  ·obtain rfl:j=ps.length - 1:=by omega
   unfold dx
   rw [show ps.length - 1+1=ps.length by omega,ix_append_at,Qch (by omega)]
   exact ⟨h1,h2⟩
theorem PlP.bd {many most:Int} {ps:List Int} (h:PlP many most ps) (hm:0≤most):∀ j:Nat,j < ps.length→0≤ix ps j∧ix ps j≤49+3 * most * j
 | 0,_=>by have:=h.lo;have:=h.hi;rw [show ((0:Nat):Int)=0 from rfl,Int.mul_zero];omega
 | j+1,hj=>by
   have a:=h.bd hm j (by omega)
   have b:=h.step j hj
   unfold dx at b
   rw [show ((j+1:Nat):Int)=(j:Int)+1 by omega,Int.mul_add]
   omega
theorem PlP.okP {many most top:Int} {ps:List Int} (h:PlP many most ps) (h2:2≤ps.length) (hm:0≤most) (ht:49+3 * most * (many - 1)≤top):OkP many top ps:=by
 have hb:=h.bd hm (ps.length - 1) (by omega)
 have:=h.many
 have hle:3 * most * ((ps.length - 1:Nat):Int)≤3 * most * (many - 1):=Int.mul_le_mul_of_nonneg_left (by omega) (by omega)
 refine ⟨h2,by omega,h.lo,by omega,fun j hj=>?_⟩
 have:=h.step j (by omega)
 unfold dx at this
 omega
theorem ownI_lit (W:World) (x:Int) (base:Nat) (hb:base≤W.heap.size):OwnI (W.alloc (.cells #[.int .i64 x] 3)) base (.slice (some ⟨W.heap.size,0,none⟩) 1 1) [x]:=
 ⟨rfl,.inr ⟨W.heap.size,1, #[.int .i64 x],rfl,hb,heap_alloc_new W _,Nat.le_refl _,by unfold maxLen;omega,rfl,rfl⟩⟩
def RetPl (many most:Int) (w:World) (e:Ending) (w':World):Prop:=
 ∃ ps v,e= .returned v∧OwnI w' w.heap.size v ps∧PlP many most ps∧2≤ps.length∧Below w.heap.size w w'
set_option maxHeartbeats 2000000 in
set_option maxRecDepth 4000 in
theorem Places_any (xs:List Int) (A:Option Addr) (c:Nat) (many most:Int) (h2:2≤many) (h9:many≤1000) (m1:1≤most) (m2:most≤1000000) (hc:xs.length≤c) (hm:c≤17592186043904) (w:World) (h:RD w w.heap.size A (ints xs)) (bd:∀ j, -9223372036854775808≤ix xs j∧ix xs j≤9223372036854775807):
  Calls Tryz.prog 21 #[.slice A xs.length c,.int .i64 many,.int .i64 most] w (RetPl many most w):=by
 obtain ⟨a0,ha0⟩:∃ a,atZ xs 0=a:=⟨_,rfl⟩
 obtain ⟨a1,ha1⟩:∃ a,atZ xs 1=a:=⟨_,rfl⟩
 have b0:=atZ_bd (i:=0) bd
 have b1:=atZ_bd (i:=1) bd
 rw [ha0] at b0
 rw [ha1] at b1
 obtain ⟨b00,b01⟩:=b0
 obtain ⟨b10,b11⟩:=b1
 obtain ⟨r0,hr0⟩:∃ a,a0 % 50=a:=⟨_,rfl⟩
 obtain ⟨r1,hr1⟩:∃ a,a1 % most=a:=⟨_,rfl⟩
 have q0:0≤r0∧r0≤49:=by omega
 have q1:0≤r1∧r1 < most:=by rw [←hr1];exact ⟨Int.emod_nonneg _ (by omega),Int.emod_lt_of_pos _ (by omega)⟩
 obtain ⟨q00,q01⟩:=q0
 obtain ⟨q10,q11⟩:=q1
 have HA0:=Lib.hid ha0
 have HA1:=Lib.hid ha1
 have HR0:=Lib.hid hr0
 have HR1:=Lib.hid hr1
 have HB:=Lib.hid bd
 have H:=Lib.hid h
 clear ha0 ha1 hr0 hr1 bd h
 go_enter Tryz.func21,Tryz.ntmps21
 go_wp2_with (first | (go_at_call 23;(with_reducible refine (At_is HA0.out A c (by omega) (by omega) hc hm _ H.out).mono ?_);rintro e w' ⟨rfl,rfl⟩) | (go_at_call 22;(with_reducible refine (mod_is HR0.out b00 b01 (by omega) (by omega) _).mono ?_);rintro e w' ⟨rfl,rfl⟩) | (go_at_call 23;(with_reducible refine (At_is HA1.out A c (by omega) (by omega) hc hm _ (H.out.keep (Below.alloc (Below.refl _ _) (Nat.le_refl _) _) (Nat.le_refl _))).mono ?_);rintro e w' ⟨rfl,rfl⟩) | (go_at_call 22;(with_reducible refine (mod_is HR1.out b10 b11 (by omega) (by omega) _).mono ?_);rintro e w' ⟨rfl,rfl⟩))
 go_loopw [7,8,9] (fun v s x wr=>∃ (ps:List Int) (t:Int) (k:Nat),x= .int .i64 k∧1≤k∧(k=1∨k≤xs.length)∧s= .int .i64 t∧1≤t∧t≤most∧OwnI wr w.heap.size v ps∧PlP many most ps∧Below w.heap.size w wr) (fun _ _ x _=>xs.length - (intOf x).toNat)
 case atStart=>exact ⟨[r0],1+r1,1,rfl,by omega,.inl rfl,by first | rfl | go_num,by omega,by omega,ownI_lit _ _ _ (Nat.le_refl _),⟨by simp,by simp;omega,q00,q01,fun j hj=>by simp at hj⟩,by repeat' (first | (with_reducible exact Below.refl _ _) | (with_reducible assumption) | (refine Qa (by assumption) ?_ ?_) | (with_reducible refine Qaa ?_ _) | (with_reducible refine Below.drew ?_) | (with_reducible refine Below.alloc ?_ ?_ _) | (with_reducible refine Below.setCell ?_ ?_ _) | go_size)⟩
 case round=>
  obtain ⟨ps,t,k,rfl,hk1,hk2,rfl,ht1,ht2,hown,hpl,hbl⟩:=hrel
  obtain ⟨A2,c2,rfl,hc2,hm2,hrd2,hbase,_⟩:=hown.form
  obtain ⟨pm,hpm⟩:∃ pm:Nat,ps.length=pm:=⟨_,rfl⟩
  have pm1:1≤ps.length:=hpl.one
  have pm2:=hpl.many
  have hpb:=hpl.bd (by omega) (ps.length - 1) (by omega)
  have hpb2:3 * most * ((ps.length - 1:Nat):Int)≤3 * 1000000 * 1000:=by
   have:=Int.mul_le_mul (show 3 * most≤3 * 1000000 by omega) (show ((ps.length - 1:Nat):Int)≤1000 by omega) (by omega) (by omega)
   omega
  obtain ⟨l0,hl0⟩:∃ l,ix ps (ps.length - 1)=l:=⟨_,rfl⟩
  rw [hl0] at hpb
  have l1:0≤l0:=hpb.1
  have l2:l0≤3000000049:=by omega
  obtain ⟨b2,off2,rfl,hb2,hcell2⟩:=hrd2.ints pm1
  have z0:=hcell2 (ps.length - 1) (by omega)
  rw [hl0] at z0
  have HL0:=Lib.hid hl0
  have HO:=Lib.hid hown
  have HP:=Lib.hid hpl
  have HBL:=Lib.hid hbl
  have HZ:=Lib.hid (hcell2 0 pm1)
  have hs:=hbl.size
  clear hown hpl hbl hrd2 hcell2 hpb hpb2 hl0 hpm hbase
  by_cases hk:k < xs.length
  ·by_cases hmy:(ps.length:Int) < many
   ·obtain ⟨b1',off1,rfl,hb1,hcell1⟩:=H.out.ints (by omega)
    have y0:=(HBL.out.cell (p:=⟨b1',off1+k,none⟩) hb1).trans (hcell1 k hk)
    obtain ⟨x0,x1⟩:=HB.out k
    obtain ⟨m5,hm5⟩:∃ a,ix xs k % 5=a:=⟨_,rfl⟩
    have m50:0≤m5∧m5≤4:=by omega
    obtain ⟨m50,m51⟩:=m50
    have HM5:=Lib.hid hm5
    obtain ⟨md,hmd⟩:∃ a,(ix xs k).tdiv 5 % most=a:=⟨_,rfl⟩
    have md0:0≤md∧md < most:=by rw [←hmd];exact ⟨Int.emod_nonneg _ (by omega),Int.emod_lt_of_pos _ (by omega)⟩
    obtain ⟨md0,md1⟩:=md0
    have HMD:=Lib.hid hmd
    have hdq: -9223372036854775808≤(ix xs k).tdiv 5∧(ix xs k).tdiv 5≤9223372036854775807:=by
     have e1:=Int.mul_tdiv_add_tmod (ix xs k) 5
     have e2:=tmod_gt (ix xs k) 5 (by omega)
     have e3:=Int.tmod_lt_of_pos (ix xs k) (show (0:Int) < 5 by omega)
     omega
    obtain ⟨hdq0,hdq1⟩:=hdq
    have hm3:0≤m5 % 3∧m5 % 3≤2:=by omega
    obtain ⟨hm30,hm31⟩:=hm3
    clear hm5 hmd hcell1
    have hml:ps.length≤1000000:=by omega
    rcases (by omega:m5=0∨m5=1∨m5=2∨m5=3∨m5=4) with e5 | e5 | e5 | e5 | e5
    all_goals (
     have HM:=Lib.hid (HM5.out.trans e5)
     clear HM5 e5 m50 m51 hm30 hm31
     go_wp2_with (first | (go_at_call 22;(with_reducible refine (mod_is HM.out x0 x1 (by omega) (by omega) _).mono ?_);rintro e w' ⟨rfl,rfl⟩) | (go_at_call 22;(with_reducible refine (mod_is HMD.out hdq0 hdq1 (by omega) (by omega) _).mono ?_);rintro e w' ⟨rfl,rfl⟩) | (at_builtin;refine Qbz rfl _ _ rfl w.heap.size _ _ rfl (HO.out.kept (by repeat' (first | (with_reducible exact Below.refl _ _) | (with_reducible assumption) | (refine Qa (by assumption) ?_ ?_) | (with_reducible refine Qaa ?_ _) | (with_reducible refine Below.drew ?_) | (with_reducible refine Below.alloc ?_ ?_ _) | (with_reducible refine Below.setCell ?_ ?_ _) | go_size)) (Nat.le_refl _)) wr.heap.size 1 _ rfl (Qba _ _ _) hml (by simp;omega) ?_;intro v' w1 hown' hgrow;replace hgrow:=Qcx HBL.out HO.out hgrow)))
    all_goals exact ⟨⟨_,_,k+1,by go_num,by omega,.inr (by omega),rfl,by omega,by omega,hown',HP.out.snoc hmy (by rw [HL0.out];omega) (by rw [HL0.out];omega),hgrow⟩,by simp [intOf];omega⟩
   ·have hl2: ¬ ((ps.length:Int) < 2):=by omega
    have hl2': ¬ (ps.length < 2):=by omega
    go_wp2
    go_ret
    exact ⟨ps,_,rfl,HO.out,HP.out,by omega,HBL.out⟩
  ·by_cases hl2:ps.length < 2
   ·have e1:ps.length - 1=0:=by omega
    have z1:=HZ.out
    have l00:ix ps 0=l0:=by have:=HL0.out;rwa [e1] at this
    rw [l00,Nat.add_zero] at z1
    have L00:=Lib.hid l00
    have E1:=Lib.hid e1
    clear l00 e1 z0
    have hml:ps.length≤1000000:=by omega
    have hlp:0 < ps.length:=pm1
    have hlp':(0:Int) < (ps.length:Nat):=by omega
    go_wp2_with (at_builtin;refine Qbz rfl _ _ rfl w.heap.size _ _ rfl (HO.out.kept (by repeat' (first | (with_reducible exact Below.refl _ _) | (with_reducible assumption) | (refine Qa (by assumption) ?_ ?_) | (with_reducible refine Qaa ?_ _) | (with_reducible refine Below.drew ?_) | (with_reducible refine Below.alloc ?_ ?_ _) | (with_reducible refine Below.setCell ?_ ?_ _) | go_size)) (Nat.le_refl _)) wr.heap.size 1 _ rfl (Qba _ _ _) hml (by simp;omega) ?_;intro v' w1 hown' hgrow;replace hgrow:=Qcx HBL.out HO.out hgrow)
    go_ret
    exact ⟨_,_,rfl,hown',HP.out.snoc (by omega) (by rw [E1.out,L00.out];omega) (by rw [E1.out,L00.out];omega),by simp;omega,hgrow⟩
   ·go_wp2
    go_ret
    exact ⟨ps,_,rfl,HO.out,HP.out,by omega,HBL.out⟩
end Go.Proofs.YtdlmdaononclgaaGreatDoor
namespace Go.Proofs.YtdlmdaononclgaaGreatDoor
open Go.RowKit
set_option linter.unusedVariables false
set_option linter.unusedSimpArgs false
def gcells (gs:List (Int × Int)):List Value:=gs.flatMap fun p=>[.int .i64 p.1,.int .i64 p.2]
theorem gcells_length:∀ gs:List (Int × Int),(gcells gs).length=gs.length * 2
 | []=>rfl
 | p :: gs=>by rw [gcells,List.flatMap_cons,List.length_append, ←gcells,gcells_length gs];simp;omega
def gx (gs:List (Int × Int)) (i:Nat):Int × Int:=gs.getD i (0,0)
theorem gcells_at:∀ {gs:List (Int × Int)} {i:Nat},i < gs.length→(gcells gs)[i * 2]? =some (.int .i64 (gx gs i).1)∧(gcells gs)[i * 2+1]? =some (.int .i64 (gx gs i).2)
 | p :: gs,0,_=>⟨rfl,rfl⟩
 | p :: gs,i+1,h=>by
   have:=gcells_at (gs:=gs) (i:=i) (by simpa using h)
   have e:gcells (p :: gs)= .int .i64 p.1 :: .int .i64 p.2 :: gcells gs:=rfl
   rw [e,show (i+1) * 2=i * 2+1+1 by omega]
   simpa [gx] using this
def OwnG (w:World) (base:Nat) (v:Value) (gs:List (Int × Int)):Prop:=w.ownsRow base 110 2 v gs.length (gcells gs)
theorem OwnG.nil (w:World) (base:Nat):OwnG w base (.slice none 0 0) []:=World.ownsRow_nil w base _ _
theorem OwnG.kept {w w':World} {base:Nat} {v:Value} {gs:List (Int × Int)} (h:OwnG w base v gs) {B:Nat} (hb:Below B w w') (hB:w.heap.size≤B):OwnG w' base v gs:=by
 refine ⟨h.1,?_⟩
 rcases h.2 with hn | ⟨g,cap,cur,rfl,h1,hg,rest⟩
 ·exact .inl hn
 ·exact .inr ⟨g,cap,cur,rfl,h1,(hb.block g (by have:=(Array.getElem?_eq_some_iff.1 hg).1;omega)).trans hg,rest⟩
def GD (w:World) (B:Nat) (A:Option Addr) (gs:List (Int × Int)):Prop:=RD w B A (gcells gs)
theorem GD.at {w:World} {B:Nat} {A:Option Addr} {gs:List (Int × Int)} (h:GD w B A gs) (hp:0 < gs.length):
  ∃ b off,A=some ⟨b,off,none⟩∧b < B∧∀ i,i < gs.length→w.cell? ⟨b,off+i * 2,none⟩=some (.int .i64 (gx gs i).1)∧w.cell? ⟨b,off+i * 2+1,none⟩=some (.int .i64 (gx gs i).2):=by
 rcases h with h | ⟨b,off,rfl,hlt,hc⟩
 ·have:=congrArg List.length h;rw [gcells_length] at this;simp only [List.length_nil] at this;omega
 ·refine ⟨b,off,rfl,hlt,fun i hi=>⟨hc _ _ (gcells_at hi).1,?_⟩⟩
  rw [Nat.add_assoc];exact hc _ _ (gcells_at hi).2
theorem OwnG.form {w:World} {base:Nat} {v:Value} {gs:List (Int × Int)} (h:OwnG w base v gs):
  ∃ A cap,v= .slice A gs.length cap∧gs.length≤cap∧cap≤9223372036854775807∧GD w w.heap.size A gs∧(∀ b off,A=some ⟨b,off,none⟩→base≤b∧v.ownBlock=some b)∧(∀ b,v.ownBlock=some b→base≤b∧b < w.heap.size):=by
 rcases h.2 with ⟨rfl,hn⟩ | ⟨g,cap,cur,rfl,hb,hg,hn,hm,hs,ht⟩
 ·have:gs=[]:=List.eq_nil_of_length_eq_zero hn
  subst this
  exact ⟨none,0,rfl,by simp,by omega,.inl rfl,(fun b off e=>by cases e),(fun b e=>by cases e)⟩
 ·have hlt:g < w.heap.size:=(Array.getElem?_eq_some_iff.1 hg).1
  refine ⟨some ⟨g,0,none⟩,cap,rfl,hn,by unfold maxLen at hm;omega,?_,(fun b off e=>by cases e;exact ⟨hb,rfl⟩),(fun b e=>by simp only [Value.ownBlock,Option.some.injEq] at e;omega)⟩
  by_cases h0:gs.length=0
  ·left;have:gs=[]:=List.eq_nil_of_length_eq_zero h0;subst this;rfl
  ·refine .inr ⟨g,0,rfl,hlt,fun j v hv=>?_⟩
   have:=h.cells (g:=g) rfl j v hv
   rwa [Addr.add_lit] at this
variable {w:World}
end Go.Proofs.YtdlmdaononclgaaGreatDoor
namespace Go.Proofs.YtdlmdaononclgaaGreatDoor
open Go.RowKit
set_option linter.unusedVariables false
set_option linter.unusedSimpArgs false
theorem Arr.to {w:World} {g:Nat} {xs ys:List Int} (h:Arr w g xs) (e:xs=ys):Arr w g ys:=e ▸ h
end Go.Proofs.YtdlmdaononclgaaGreatDoor
namespace Go.Proofs.YtdlmdaononclgaaGreatDoor
open Go.RowKit
set_option linter.unusedVariables false
set_option linter.unusedSimpArgs false
theorem ix_ext {xs ys:List Int} (hl:xs.length=ys.length) (h:∀ j,j < xs.length→ix xs j=ix ys j):xs=ys:=by
 apply List.ext_getElem hl
 intro j h1 h2
 have:=h j h1
 simpa [ix,List.getD,List.getElem?_eq_getElem h1,List.getElem?_eq_getElem h2] using this
theorem ibne_false {a b:Int} (h:a=b):(a != b)=false:=by simp [h]
theorem ibne_true {a b:Int} (h: ¬ a=b):(a != b)=true:=by simpa using h
set_option maxHeartbeats 1000000 in
theorem SameInts_any (xs ys:List Int) (A:Option Addr) (c:Nat) (A2:Option Addr) (c2:Nat) (hc:xs.length≤c) (hm:c≤9223372036854775807) (hc2:ys.length≤c2) (hm2:c2≤9223372036854775807) (w:World) {B B2:Nat} (h:RD w B A (ints xs)) (h2:RD w B2 A2 (ints ys)):
  Calls Tryz.prog 19 #[.slice A xs.length c,.slice A2 ys.length c2] w fun e w'=>e= .returned (.bool (decide (xs=ys)))∧∃ k,w'=w.drewN k:=by
 have H1:=Lib.hid h
 have H2:=Lib.hid h2
 clear h h2
 by_cases hl:xs.length=ys.length
 ·have e1:(((xs.length:Int) != (ys.length:Int))=false):=ibne_false (by omega)
  have e2:(xs.length != ys.length)=false:=by simp [hl]
  have HL:=Lib.hid hl
  clear hl
  go_enter Tryz.func19,Tryz.ntmps19
  go_wp2
  go_loopw [5] (fun v wr=>∃ k q:Nat,k≤xs.length∧v= .int .i64 k∧wr=w.drewN q∧∀ j,j < k→ix xs j=ix ys j) (fun v _=>xs.length - (intOf v).toNat)
  case atStart=>exact ⟨0,0,by omega,rfl,rfl,fun j hj=>by omega⟩
  case round=>
   obtain ⟨k,q,hk,rfl,rfl,hlt⟩:=hrel
   have HLT:=Lib.hid hlt;clear hlt
   by_cases hk':k < xs.length
   ·obtain ⟨b,off,rfl,hb,hcell⟩:=H1.out.ints (by omega)
    obtain ⟨b2,off2,rfl,hb2,hcell2⟩:=H2.out.ints (by have:=HL.out;omega)
    have hky:k < ys.length:=by have:=HL.out;omega
    have y0:=hcell k hk'
    have y1:=hcell2 k hky
    clear hcell hcell2
    by_cases he:ix xs k=ix ys k
    ·have d0:=ibne_false he
     have HE:=Lib.hid he
     clear he
     go_wp2
     go_quiet (fail)
     go_wp2
     go_roundw
     case rel=>exact ⟨k+1,q+nq,by omega,by go_num,by first | rfl | rw [World.drewN_drewN],fun j hj=>(by rcases (by omega:j < k∨j=k) with h | rfl;exact HLT.out j h;exact HE.out)⟩
     case measure=>simp [intOf];omega
    ·have d0:=ibne_true he
     have HE:=Lib.hid he
     clear he
     go_wp2
     go_quiet (fail)
     go_wp2
     go_ret
     exact ⟨Qbf (decide_eq_false (fun e=>HE.out (by rw [e]))).symm,q+nq,by first | rfl | rw [World.drewN_drewN]⟩
   ·go_wp2
    go_ret
    exact ⟨Qbf (decide_eq_true (ix_ext HL.out (fun j hj=>HLT.out j (by omega)))).symm,q,rfl⟩
 ·have e1:(((xs.length:Int) != (ys.length:Int))=true):=ibne_true (by omega)
  have e2:(xs.length != ys.length)=true:=by simpa using hl
  have HL:=Lib.hid hl
  clear hl
  go_enter Tryz.func19,Tryz.ntmps19
  go_wp2
  go_ret
  exact ⟨Qbf (decide_eq_false (fun e=>HL.out (by rw [e]))).symm,0,rfl⟩
theorem SameInts_is {xs ys:List Int} {r:Bool} (hr:decide (xs=ys)=r) (A:Option Addr) (c:Nat) (A2:Option Addr) (c2:Nat) (hc:xs.length≤c) (hm:c≤9223372036854775807) (hc2:ys.length≤c2) (hm2:c2≤9223372036854775807) (w:World) {B B2:Nat} (h:RD w B A (ints xs)) (h2:RD w B2 A2 (ints ys)):
  Calls Tryz.prog 19 #[.slice A xs.length c,.slice A2 ys.length c2] w fun e w'=>e= .returned (.bool r)∧∃ k,w'=w.drewN k:=by
 subst hr;exact SameInts_any xs ys A c A2 c2 hc hm hc2 hm2 w h h2
end Go.Proofs.YtdlmdaononclgaaGreatDoor
namespace Go.Proofs.YtdlmdaononclgaaGreatDoor
open Go.RowKit
set_option linter.unusedVariables false
set_option linter.unusedSimpArgs false
theorem RR.nil (w:World) (B:Nat) (A:Option Addr):RR w B A [] []:=⟨rfl,.inl rfl,fun i hi=>by simp at hi⟩
end Go.Proofs.YtdlmdaononclgaaGreatDoor
namespace Go.Proofs.YtdlmdaononclgaaGreatDoor
open Go.RowKit
set_option linter.unusedVariables false
set_option linter.unusedSimpArgs false
end Go.Proofs.YtdlmdaononclgaaGreatDoor
namespace Go.Proofs.YtdlmdaononclgaaGreatDoor
open Go.RowKit
set_option linter.unusedVariables false
set_option linter.unusedSimpArgs false
theorem checkOrd_is {xs ys:List Int} {r:Int} (hr:ordE xs ys=r) (A:Option Addr) (c:Nat) (A2:Option Addr) (c2:Nat) (hc:xs.length≤c) (hm:c≤9223372036854775807) (hc2:ys.length≤c2) (hm2:c2≤9223372036854775807) (w:World) {B B2:Nat} (h:RD w B A (ints xs)) (h2:RD w B2 A2 (ints ys)):
  Calls Tryz.prog 74 #[.slice A xs.length c,.slice A2 ys.length c2] w fun e w'=>e= .returned (.int .i64 r)∧w=w':=by
 subst hr;exact checkOrd_any xs ys A c A2 c2 hc hm hc2 hm2 w h h2
theorem ordE_cases (xs ys:List Int):ordE xs ys=0∨ordE xs ys=1∨ordE xs ys=12:=by
 unfold ordE;(repeat' split) <;> simp
theorem ordE_zero {xs ys:List Int} (h:ordE xs ys=0):OkP 9 100000 xs∧ys.length=xs.length∧∀ j, -20000≤ix ys j∧ix ys j≤20000:=by
 unfold ordE at h
 split at h
 ·rename_i hp
  split at h
  ·rename_i hl
   split at h
   ·cases h
   ·rename_i ha
    refine ⟨okP_true hp,hl,fun j=>?_⟩
    by_cases hj:j < ys.length
    ·cases hb:badO (ix ys j) with
     | true=>exact absurd (anyB_yes j hj hb) ha
     | false=>
       simp only [badO,Bool.not_eq_false'] at hb
       exact within_true hb
    ·rw [ix_out (by omega)];omega
  ·cases h
 ·cases h
def areaR (xs ys:List Int):Int × Int:=if ordE xs ys=0 then (dotK (Qab xs) ys xs.length,0) else (0,ordE xs ys)
def cenR (xs ys:List Int):Int × Int × Int:=
 if ordE xs ys=0 then (if dotK (Qab xs) ys xs.length=0 then (0,0,3) else mkR (dotK (Qab xs) (momL xs ys 0 xs.length) xs.length) (dotK (Qab xs) ys xs.length)) else (0,0,ordE xs ys)
theorem area_bd {xs ys:List Int} (h:ordE xs ys=0): -32400000000000≤dotK (Qab xs) ys xs.length∧dotK (Qab xs) ys xs.length≤32400000000000:=by
 obtain ⟨hP,hl,hy⟩:=ordE_zero h
 have:=dotK_bd (ws:=Qab xs) (ys:=ys) (M:=180000000 * 20000) (by omega) (fun k=>mulbd (weightsZ_bd hP (by omega) k) (hy k) (by omega) (by omega)) xs.length
 have:=hP.many
 omega
theorem mom_bd {xs ys:List Int} {about:Int} (h:ordE xs ys=0) (ab0:0≤about) (ab1:about≤100000): -3240000000000000000≤dotK (Qab xs) (momL xs ys about xs.length) xs.length∧dotK (Qab xs) (momL xs ys about xs.length) xs.length≤3240000000000000000:=by
 obtain ⟨hP,hl,hy⟩:=ordE_zero h
 have hq:∀ j, -2000000000≤ix (momL xs ys about xs.length) j∧ix (momL xs ys about xs.length) j≤2000000000:=fun j=>by
  by_cases hj:j < xs.length
  ·rw [momL_ix _ _ _ _ _ hj]
   have a:=hP.lo j hj
   have b:=hP.hi' j hj
   have:=mulbd (M:=20000) (N:=100000) (hy j) (show -100000≤ix xs j - about∧ix xs j - about≤100000 by omega) (by omega) (by omega)
   omega
  ·rw [ix_out (by rw [Qdo];omega)];omega
 have:=dotK_bd (ws:=Qab xs) (ys:=momL xs ys about xs.length) (M:=180000000 * 2000000000) (by omega) (fun k=>mulbd (weightsZ_bd hP (by omega) k) (hq k) (by omega) (by omega)) xs.length
 have:=hP.many
 omega
section
variable (xs ys:List Int) (A:Option Addr) (c:Nat) (A2:Option Addr) (c2:Nat) (hc:xs.length≤c) (hm:c≤9223372036854775807) (hc2:ys.length≤c2) (hm2:c2≤9223372036854775807) (w:World) (h:RD w w.heap.size A (ints xs)) (h2:RD w w.heap.size A2 (ints ys))
include hc hm hc2 hm2 h h2
set_option maxHeartbeats 1000000 in
theorem Area_any:Calls Tryz.prog 56 #[.slice A xs.length c,.slice A2 ys.length c2] w fun e w'=>e= .returned (.tuple #[.int .i64 (areaR xs ys).1,.int .i64 (areaR xs ys).2])∧Below w.heap.size w w':=by
 rcases ordE_cases xs ys with he | he | he
 ·obtain ⟨hP,hl,hy⟩:=ordE_zero he
  have HA:=Lib.hid (area_any xs ys A c A2 c2 hP hc hm w h hl hc2 (fun j=>by have:=hy j;omega) h2)
  have HR:Hid (areaR xs ys=(dotK (Qab xs) ys xs.length,0)):=by show _=_;simp only [areaR,he,if_true]
  have HE:=Lib.hid he
  clear hy hl he
  go_enter Tryz.func56,Tryz.ntmps56
  go_wp2_with (first | (go_at_call 74;(with_reducible refine (checkOrd_is HE.out A c A2 c2 hc hm hc2 hm2 _ h h2).mono ?_);rintro e w' ⟨rfl,rfl⟩) | (go_at_call 75;(with_reducible refine (HA.out).mono ?_);rintro e w1 ⟨rfl,hb1⟩;obtain ⟨hc1,hf1⟩:=bcell hb1;have hz1:=hb1.size;(try simp only [World.size_alloc,World.size_setCell,World.size_drew,Qac] at hz1)))
  go_ret2
  rw [HR.out]
  exact ⟨rfl,hb1⟩
 ·have HR:Hid (areaR xs ys=(0,1)):=by show _=_;simp [areaR,he]
  have HE:=Lib.hid he
  clear he
  go_enter Tryz.func56,Tryz.ntmps56
  go_wp2_with (first | (go_at_call 74;(with_reducible refine (checkOrd_is HE.out A c A2 c2 hc hm hc2 hm2 _ h h2).mono ?_);rintro e w' ⟨rfl,rfl⟩))
  go_ret2
  rw [HR.out]
  exact ⟨rfl,Below.refl _ _⟩
 ·have HR:Hid (areaR xs ys=(0,12)):=by show _=_;simp [areaR,he]
  have HE:=Lib.hid he
  clear he
  go_enter Tryz.func56,Tryz.ntmps56
  go_wp2_with (first | (go_at_call 74;(with_reducible refine (checkOrd_is HE.out A c A2 c2 hc hm hc2 hm2 _ h h2).mono ?_);rintro e w' ⟨rfl,rfl⟩))
  go_ret2
  rw [HR.out]
  exact ⟨rfl,Below.refl _ _⟩
end
set_option maxHeartbeats 1000000 in
theorem Weights_yes {xs:List Int} (hp:okP 9 100000 xs=true) (A:Option Addr) (c:Nat) (hc:xs.length≤c) (hm:c≤9223372036854775807) (w:World) (h:RD w w.heap.size A (ints xs)):
  Calls Tryz.prog 31 #[.slice A xs.length c] w fun e w'=>∃ g,e= .returned (.tuple #[.slice (some ⟨g,0,none⟩) (Qab xs).length (Qab xs).length,.int .i64 0])∧w.heap.size≤g∧Arr w' g (Qab xs)∧Below w.heap.size w w':=by
 have HA:=Lib.hid (Qdm xs A c (okP_true hp) hc hm w h)
 go_enter Tryz.func31,Tryz.ntmps31
 go_wp2_with (first | (go_at_call 54;(with_reducible refine (Qbu hp A c _ hc hm h).mono ?_);rintro e w' ⟨rfl,rfl⟩) | (go_at_call 55;(with_reducible refine HA.out.mono ?_);rintro e w1 ⟨g,rfl,hg,har,hb1⟩))
 go_ret2
 exact ⟨g,rfl,hg,har,hb1⟩
end Go.Proofs.YtdlmdaononclgaaGreatDoor
namespace Go.Proofs.YtdlmdaononclgaaGreatDoor
open Go.RowKit
set_option linter.unusedVariables false
set_option linter.unusedSimpArgs false
section
variable {a b:List Int} {H:Nat→Nat→Int} {n m:Nat}
end
theorem table_ok {xs zs:List Int} {rs:List (List Int)} (h:Qav xs zs rs=true):OkP 9 100000 xs∧OkP 7 15000 zs∧rs.length=xs.length∧(∀ i,i < rs.length→(rx rs i).length=zs.length)∧∀ i k,0≤ix (rx rs i) k∧ix (rx rs i) k≤20000:=by
 simp only [Qav,gridB,Bool.and_eq_true,decide_eq_true_eq,Bool.not_eq_true'] at h
 obtain ⟨⟨h1,h2⟩,h3,h4⟩:=h
 have hrow:∀ i,i < rs.length→Qbq zs.length (rx rs i)=false:=fun i hi=>by
  refine Bool.eq_false_iff.2 fun hb=>?_
  rw [anyR_yes i hi hb] at h4
  cases h4
 have hr2:∀ i,i < rs.length→(rx rs i).length=zs.length∧anyB badH (rx rs i)=false:=fun i hi=>by
  have:=hrow i hi
  simp only [Qbq,Bool.or_eq_false_iff,Bool.not_eq_false',decide_eq_true_eq] at this
  exact this
 refine ⟨okP_true h1,okP_true h2,h3,fun i hi=>(hr2 i hi).1,fun i k=>?_⟩
 by_cases hi:i < rs.length
 ·by_cases hk:k < (rx rs i).length
  ·have h5:=(hr2 i hi).2
   have:badH (ix (rx rs i) k)=false:=by
    refine Bool.eq_false_iff.2 fun hb=>?_
    rw [anyB_yes k hk hb] at h5
    cases h5
   simp only [badH,Qbt,Bool.not_eq_false',Bool.and_eq_true,decide_eq_true_eq] at this
   exact this
  ·rw [ix_out (by omega)];omega
 ·have:rx rs i=[]:=by simp [rx,List.getD,List.getElem?_eq_none (show rs.length≤i by omega)]
  rw [this,ix_nil];omega
end Go.Proofs.YtdlmdaononclgaaGreatDoor
namespace Go.Proofs.YtdlmdaononclgaaGreatDoor
open Go.RowKit
set_option linter.unusedVariables false
set_option linter.unusedSimpArgs false
set_option maxHeartbeats 1000000 in
theorem SameRows_same {rs:List (List Int)} {n:Nat} (hn:rs.length=n) (A:Option Addr) (c:Nat) (A2:Option Addr) (c2:Nat) (vs us:List Value) (hc:n≤c) (hm:c≤9223372036854775807) (hc2:n≤c2) (hm2:c2≤9223372036854775807) (w:World) (h:RR w w.heap.size A vs rs) (h2:RR w w.heap.size A2 us rs):
  Calls Tryz.prog 20 #[.slice A n c,.slice A2 n c2] w fun e w'=>e= .returned (.bool true)∧Below w.heap.size w w':=by
 have H1:=Lib.hid h
 have H2:=Lib.hid h2
 have HN:=Lib.hid hn
 clear h h2 hn
 go_enter Tryz.func20,Tryz.ntmps20
 go_wp2
 go_loopw [5] (fun v wr=>∃ k:Nat,k≤n∧v= .int .i64 k∧Below w.heap.size w wr) (fun v _=>n - (intOf v).toNat)
 case atStart=>exact ⟨0,by omega,rfl,Below.refl _ _⟩
 case round=>
  obtain ⟨k,hk,rfl,hB⟩:=hrel
  have HB:=Lib.hid hB
  clear hB
  by_cases hk':k < n
  ·obtain ⟨b,off,rfl,hb,hcell⟩:=H1.out.cells (by have:=HN.out;omega)
   obtain ⟨b2,off2,rfl,hb2,hcell2⟩:=H2.out.cells (by have:=HN.out;omega)
   have y0:=cell_later HB.out (hcell k (by have:=HN.out;omega))
   have z0:=cell_later HB.out (hcell2 k (by have:=HN.out;omega))
   obtain ⟨Ai,ci,e1,h11,h12,h13⟩:=H1.out.each k (by have:=HN.out;omega)
   obtain ⟨Aj,cj,e2,h21,h22,h23⟩:=H2.out.each k (by have:=HN.out;omega)
   rw [e1] at y0
   rw [e2] at z0
   have hB:=HB.out
   have SI:Hid (∀ W,Below wr.heap.size wr W→Calls Tryz.prog 19 #[.slice Ai (rx rs k).length ci,.slice Aj (rx rs k).length cj] W fun e w'=>e= .returned (.bool true)∧∃ k,w'=W.drewN k):=Lib.hid (fun W hW=>SameInts_is (decide_eq_true rfl) Ai ci Aj cj h11 h12 h21 h22 W (h13.keep (Qa hW hB hB.size) (Nat.le_refl _)) (h23.keep (Qa hW hB hB.size) (Nat.le_refl _)))
   obtain ⟨li,hli⟩:∃ l,(rx rs k).length=l:=⟨_,rfl⟩
   rw [hli] at y0 z0 SI
   clear hcell hcell2 e1 e2 h11 h12 h13 h21 h22 h23 hli hB
   go_upto_region 6 with fail
   have K1:=Kd.cell y0
   have K2:=Kd.cell z0
   refine region_kept (by kernel_rfl) (by kernel_rfl) ?_
   repeat (go_big_quiet_step ((go_at_call 19;exact kept_drew (SI.out _ (Kd.ok _)))))
   refine wpQuiet_nil ?_
   rintro W6 ⟨kk,hkk⟩
   have B6:=Lib.hid (show Below wr.heap.size wr W6 from hkk ▸ kk.ok)
   clear hkk kk K1 K2 y0 z0
   go_wp2
   go_roundw
   case rel=>exact ⟨k+1,by omega,by go_num,Qa B6.out HB.out HB.out.size⟩
   case measure=>simp [intOf];omega
  ·go_wp2
   go_ret
   exact ⟨rfl,HB.out⟩
theorem cells_box3 {W w1:World} {a b c:Value} {t:TypeId} (hb:Below (W.alloc (.cells #[a,b,c] t)).heap.size (W.alloc (.cells #[a,b,c] t)) w1):w1.cell? ⟨W.heap.size,0,none⟩=some a∧w1.cell? ⟨W.heap.size,1,none⟩=some b∧w1.cell? ⟨W.heap.size,2,none⟩=some c:=by
 have h:w1.heap[W.heap.size]? =some (.cells #[a,b,c] t (0,0)):=by rw [hb.block _ (by simp)];exact heap_alloc_new W _
 refine ⟨?_,?_,?_⟩ <;> (rw [cell_of_row _ W.heap.size _ _ _ _ h];rfl)
end Go.Proofs.YtdlmdaononclgaaGreatDoor
namespace Go.Proofs.YtdlmdaononclgaaGreatDoor
open Go.RowKit
set_option linter.unusedVariables false
set_option linter.unusedSimpArgs false
variable {w:World}
theorem ownI_one (W:World) (base:Nat) (hb:base≤W.heap.size) (x:Int):OwnI (W.alloc (.cells #[.int .i64 x] 3)) base (.slice (some ⟨W.heap.size,0,none⟩) 1 1) [x]:=
 ⟨rfl,.inr ⟨W.heap.size,1, #[.int .i64 x],rfl,hb,heap_alloc_new W _,Nat.le_refl _,by unfold maxLen;omega,rfl,rfl⟩⟩
theorem app1_below {w0 W w1:World} {o:Obj} {n c:Nat} (hB:Below w0.heap.size w0 W) (hg:(W.alloc o).grownBy w1 (Value.slice (some ⟨W.heap.size,0,none⟩) n c).ownBlock):Below w0.heap.size w0 w1:=
 (hB.alloc hB.size o).grown hg (by have:=hB.size;simp;omega) (fun k e=>by simp only [Value.ownBlock,Option.some.injEq] at e;have:=hB.size;omega)
theorem OwnI.rd1 {base n c:Nat} {A:Option Addr} {ps:List Int} (h:OwnI w base (.slice A n c) ps):RD w w.heap.size A (ints ps):=by
 obtain ⟨A',c',h1,_,_,h4,_⟩:=h.form
 cases h1;exact h4
end Go.Proofs.YtdlmdaononclgaaGreatDoor
namespace Go.Proofs.YtdlmdaononclgaaGreatDoor
open Go.RowKit
set_option linter.unusedVariables false
set_option linter.unusedSimpArgs false
def Qaq:List UInt8:=[119,97,116,101,114,115]
def Qal:List UInt8:=[115,116,97,116,105,111,110]
def linesT (xs:List Int) (rs:List (List Int)) (k:Nat):List UInt8:=(List.range k).flatMap fun i=>rowT Qal (ix xs i :: rx rs i)
def Qbr (xs zs:List Int) (rs:List (List Int)):List UInt8:=rowT Qaq zs ++ linesT xs rs rs.length
def printV (xs zs:List Int) (rs:List (List Int)):List UInt8:=if Qav xs zs rs=true then Qbr xs zs rs else []
theorem linesT_succ (xs:List Int) (rs:List (List Int)) (k:Nat):linesT xs rs (k+1)=linesT xs rs k ++ rowT Qal (ix xs k :: rx rs k):=by
 simp [linesT,List.range_succ]
theorem rowT_le (wd:List UInt8) (hw:wd.length≤100) (l:List Int) (h:In64 l):(rowT wd l).length≤101+22 * l.length:=by
 have:=take_num_len l h l.length (Nat.le_refl _)
 rw [List.take_length] at this
 simp only [rowT,List.length_append,List.length_cons,List.length_nil]
 omega
theorem okP_le {many most:Int} {xs:List Int} (h:OkP many most xs) (hm:most≤100000):In64 xs:=by
 have hlo:=h.lo
 have hhi:=h.hi'
 intro k hk
 have:=hlo k hk
 have:=hhi k hk
 omega
theorem table_in {xs zs:List Int} {rs:List (List Int)} (h:Qav xs zs rs=true):In64 zs∧∀ i,i < rs.length→In64 (ix xs i :: rx rs i):=by
 obtain ⟨ok1,ok2,hrl,hrw,hH⟩:=table_ok h
 refine ⟨okP_le ok2 (by omega),fun i hi k hk=>?_⟩
 cases k with
 | zero=>exact okP_le ok1 (by omega) i (by omega)
 | succ k=>have:=hH i k;show _≤ix (rx rs i) k∧ix (rx rs i) k≤_;omega
theorem linesT_le {xs:List Int} {rs:List (List Int)} {m:Nat} (hm:m≤7) (hr:∀ i,i < rs.length→(rx rs i).length=m) (h:∀ i,i < rs.length→In64 (ix xs i :: rx rs i)) (k:Nat) (hk:k≤rs.length):(linesT xs rs k).length≤300 * k:=by
 induction k with
 | zero=>simp [linesT]
 | succ k ih=>
   have:=ih (by omega)
   have h2:=rowT_le Qal (by decide) _ (h k (by omega))
   rw [List.length_cons,hr k (by omega)] at h2
   rw [linesT_succ,List.length_append]
   omega
end Go.Proofs.YtdlmdaononclgaaGreatDoor
namespace Go.Proofs.YtdlmdaononclgaaGreatDoor
open Go.RowKit
set_option linter.unusedVariables false
set_option linter.unusedSimpArgs false
end Go.Proofs.YtdlmdaononclgaaGreatDoor
namespace Go.Proofs.YtdlmdaononclgaaGreatDoor
open Go.RowKit
set_option linter.unusedVariables false
set_option linter.unusedSimpArgs false
section
variable (xs ys:List Int) (A:Option Addr) (c:Nat) (A2:Option Addr) (c2:Nat) (hc:xs.length≤c) (hm:c≤9223372036854775807) (hc2:ys.length≤c2) (hm2:c2≤9223372036854775807)
include hc hm hc2 hm2
theorem Area_is {a e0:Int} (hr:areaR xs ys=(a,e0)) (w:World) {B:Nat} (hB:B≤w.heap.size) (h:RD w B A (ints xs)) (h2:RD w B A2 (ints ys)):Calls Tryz.prog 56 #[.slice A xs.length c,.slice A2 ys.length c2] w fun e w'=>e= .returned (.tuple #[.int .i64 a,.int .i64 e0])∧Below w.heap.size w w':=by
 have:=Area_any xs ys A c A2 c2 hc hm hc2 hm2 w (h.more hB) (h2.more hB)
 rw [hr] at this
 exact this
set_option maxHeartbeats 2000000 in
theorem Centre_any (w:World) (h:RD w w.heap.size A (ints xs)) (h2:RD w w.heap.size A2 (ints ys)):Calls Tryz.prog 32 #[.slice A xs.length c,.slice A2 ys.length c2] w fun e w'=>e= .returned (.tuple #[.agg #[.int .i64 (cenR xs ys).1,.int .i64 (cenR xs ys).2.1],.int .i64 (cenR xs ys).2.2])∧Below w.heap.size w w':=by
 have hk:∀ W,Below w.heap.size w W→RD W w.heap.size A (ints xs)∧RD W w.heap.size A2 (ints ys):=fun W hb=>⟨h.keep hb (Nat.le_refl _),h2.keep hb (Nat.le_refl _)⟩
 have HK:=Lib.hid hk
 clear hk h h2
 rcases ordE_cases xs ys with he | he | he
 ·obtain ⟨hP,hl,hy⟩:=ordE_zero he
  by_cases hz:dotK (Qab xs) ys xs.length=0
  ·have hr:areaR xs ys=(0,0):=by simp [areaR,he,hz]
   have HR:Hid (cenR xs ys=(0,0,3)):=by show _=_;simp [cenR,he,hz]
   have HQ:=Lib.hid hr
   clear hr he hy hl hz
   go_enter Tryz.func32,Tryz.ntmps32
   go_wp2_with (first | (go_at_call 56;refine (Area_is xs ys A c A2 c2 hc hm hc2 hm2 HQ.out _ (by simp) (HK.out _ (by repeat' (first | (with_reducible exact Below.refl _ _) | (with_reducible assumption) | (refine Qa (by assumption) ?_ ?_) | (with_reducible refine Qaa ?_ _) | (with_reducible refine Below.drew ?_) | (with_reducible refine Below.alloc ?_ ?_ _) | (with_reducible refine Below.setCell ?_ ?_ _) | go_size))).1 (HK.out _ (by repeat' (first | (with_reducible exact Below.refl _ _) | (with_reducible assumption) | (refine Qa (by assumption) ?_ ?_) | (with_reducible refine Qaa ?_ _) | (with_reducible refine Below.drew ?_) | (with_reducible refine Below.alloc ?_ ?_ _) | (with_reducible refine Below.setCell ?_ ?_ _) | go_size))).2).mono ?_;rintro e w1 ⟨rfl,hb1⟩;obtain ⟨hc1,hf1⟩:=bcell hb1;have hz1:=hb1.size;simp only [World.size_alloc] at hz1;have z0:w.heap.size < w1.heap.size:=(by omega)))
   refine bodyPost_ret (by simp [results,Tryz.results32,go_sem, *];try rfl) rfl ⟨?_,?_⟩
   ·rw [HR.out]
   ·repeat' (first | (with_reducible exact Below.refl _ _) | (with_reducible assumption) | (refine Qa (by assumption) ?_ ?_) | (with_reducible refine Qaa ?_ _) | (with_reducible refine Below.drew ?_) | (with_reducible refine Below.alloc ?_ ?_ _) | (with_reducible refine Below.setCell ?_ ?_ _) | go_size)
  ·obtain ⟨a,ha⟩:∃ a,dotK (Qab xs) ys xs.length=a:=⟨_,rfl⟩
   obtain ⟨b0,b1⟩:=area_bd he
   obtain ⟨m0,m1⟩:=mom_bd (about:=0) he (by omega) (by omega)
   rw [ha] at b0 b1 hz
   have hr:areaR xs ys=(a,0):=by simp [areaR,he,ha]
   have HR:Hid (cenR xs ys=mkR (dotK (Qab xs) (momL xs ys 0 xs.length) xs.length) a):=by show _=_;simp [cenR,he,ha,hz]
   have HQ:=Lib.hid hr
   have hmo:∀ W,Below w.heap.size w W→Calls Tryz.prog 57 #[.slice A xs.length c,.slice A2 ys.length c2,.int .i64 0] W fun e w'=>e= .returned (.int .i64 (dotK (Qab xs) (momL xs ys 0 xs.length) xs.length))∧Below W.heap.size W w':=fun W hb=>
    moment_any xs ys A c A2 c2 0 hP hc hm W ((HK.out W hb).1.more hb.size) hl hc2 hy ((HK.out W hb).2.more hb.size) (by omega) (by omega)
   have HM:=Lib.hid hmo
   have ez:(a == 0)=false:=by simpa using hz
   have HZ:=Lib.hid hz
   clear hr he hy hl hmo ha hz
   go_enter Tryz.func32,Tryz.ntmps32
   go_wp2_with (first | (go_at_call 56;refine (Area_is xs ys A c A2 c2 hc hm hc2 hm2 HQ.out _ (by simp) (HK.out _ (by repeat' (first | (with_reducible exact Below.refl _ _) | (with_reducible assumption) | (refine Qa (by assumption) ?_ ?_) | (with_reducible refine Qaa ?_ _) | (with_reducible refine Below.drew ?_) | (with_reducible refine Below.alloc ?_ ?_ _) | (with_reducible refine Below.setCell ?_ ?_ _) | go_size))).1 (HK.out _ (by repeat' (first | (with_reducible exact Below.refl _ _) | (with_reducible assumption) | (refine Qa (by assumption) ?_ ?_) | (with_reducible refine Qaa ?_ _) | (with_reducible refine Below.drew ?_) | (with_reducible refine Below.alloc ?_ ?_ _) | (with_reducible refine Below.setCell ?_ ?_ _) | go_size))).2).mono ?_;rintro e w1 ⟨rfl,hb1⟩;obtain ⟨hc1,hf1⟩:=bcell hb1;have hz1:=hb1.size;simp only [World.size_alloc] at hz1;have z0:w.heap.size < w1.heap.size:=(by omega)) | (go_at_call 57;refine (HM.out _ (by repeat' (first | (with_reducible exact Below.refl _ _) | (with_reducible assumption) | (refine Qa (by assumption) ?_ ?_) | (with_reducible refine Qaa ?_ _) | (with_reducible refine Below.drew ?_) | (with_reducible refine Below.alloc ?_ ?_ _) | (with_reducible refine Below.setCell ?_ ?_ _) | go_size))).mono ?_;rintro e w2 ⟨rfl,hb2⟩;obtain ⟨hc2',hf2'⟩:=bcell hb2;have hz2:=hb2.size;have z1:w.heap.size < w2.heap.size:=(by omega)) | (go_at_call 29;refine (make_any _ _ (by omega) (by omega) (by omega) (by omega) _).mono ?_;rintro e w3 ⟨rfl,hb3⟩;obtain ⟨hc3',hf3'⟩:=bcell hb3;have hz3:=hb3.size;have z2:w.heap.size < w3.heap.size:=(by omega)))
   refine bodyPost_ret (by simp [results,Tryz.results32,go_sem, *];try rfl) rfl ⟨?_,?_⟩
   ·rw [HR.out]
   ·repeat' (first | (with_reducible exact Below.refl _ _) | (with_reducible assumption) | (refine Qa (by assumption) ?_ ?_) | (with_reducible refine Qaa ?_ _) | (with_reducible refine Below.drew ?_) | (with_reducible refine Below.alloc ?_ ?_ _) | (with_reducible refine Below.setCell ?_ ?_ _) | go_size)
 ·have hr:areaR xs ys=(0,1):=by simp [areaR,he]
  have HR:Hid (cenR xs ys=(0,0,1)):=by show _=_;simp [cenR,he]
  have HQ:=Lib.hid hr
  clear hr he
  go_enter Tryz.func32,Tryz.ntmps32
  go_wp2_with (first | (go_at_call 56;refine (Area_is xs ys A c A2 c2 hc hm hc2 hm2 HQ.out _ (by simp) (HK.out _ (by repeat' (first | (with_reducible exact Below.refl _ _) | (with_reducible assumption) | (refine Qa (by assumption) ?_ ?_) | (with_reducible refine Qaa ?_ _) | (with_reducible refine Below.drew ?_) | (with_reducible refine Below.alloc ?_ ?_ _) | (with_reducible refine Below.setCell ?_ ?_ _) | go_size))).1 (HK.out _ (by repeat' (first | (with_reducible exact Below.refl _ _) | (with_reducible assumption) | (refine Qa (by assumption) ?_ ?_) | (with_reducible refine Qaa ?_ _) | (with_reducible refine Below.drew ?_) | (with_reducible refine Below.alloc ?_ ?_ _) | (with_reducible refine Below.setCell ?_ ?_ _) | go_size))).2).mono ?_;rintro e w1 ⟨rfl,hb1⟩;obtain ⟨hc1,hf1⟩:=bcell hb1;have hz1:=hb1.size;simp only [World.size_alloc] at hz1;have z0:w.heap.size < w1.heap.size:=(by omega)))
  refine bodyPost_ret (by simp [results,Tryz.results32,go_sem, *];try rfl) rfl ⟨?_,?_⟩
  ·rw [HR.out]
  ·repeat' (first | (with_reducible exact Below.refl _ _) | (with_reducible assumption) | (refine Qa (by assumption) ?_ ?_) | (with_reducible refine Qaa ?_ _) | (with_reducible refine Below.drew ?_) | (with_reducible refine Below.alloc ?_ ?_ _) | (with_reducible refine Below.setCell ?_ ?_ _) | go_size)
 ·have hr:areaR xs ys=(0,12):=by simp [areaR,he]
  have HR:Hid (cenR xs ys=(0,0,12)):=by show _=_;simp [cenR,he]
  have HQ:=Lib.hid hr
  clear hr he
  go_enter Tryz.func32,Tryz.ntmps32
  go_wp2_with (first | (go_at_call 56;refine (Area_is xs ys A c A2 c2 hc hm hc2 hm2 HQ.out _ (by simp) (HK.out _ (by repeat' (first | (with_reducible exact Below.refl _ _) | (with_reducible assumption) | (refine Qa (by assumption) ?_ ?_) | (with_reducible refine Qaa ?_ _) | (with_reducible refine Below.drew ?_) | (with_reducible refine Below.alloc ?_ ?_ _) | (with_reducible refine Below.setCell ?_ ?_ _) | go_size))).1 (HK.out _ (by repeat' (first | (with_reducible exact Below.refl _ _) | (with_reducible assumption) | (refine Qa (by assumption) ?_ ?_) | (with_reducible refine Qaa ?_ _) | (with_reducible refine Below.drew ?_) | (with_reducible refine Below.alloc ?_ ?_ _) | (with_reducible refine Below.setCell ?_ ?_ _) | go_size))).2).mono ?_;rintro e w1 ⟨rfl,hb1⟩;obtain ⟨hc1,hf1⟩:=bcell hb1;have hz1:=hb1.size;simp only [World.size_alloc] at hz1;have z0:w.heap.size < w1.heap.size:=(by omega)))
  refine bodyPost_ret (by simp [results,Tryz.results32,go_sem, *];try rfl) rfl ⟨?_,?_⟩
  ·rw [HR.out]
  ·repeat' (first | (with_reducible exact Below.refl _ _) | (with_reducible assumption) | (refine Qa (by assumption) ?_ ?_) | (with_reducible refine Qaa ?_ _) | (with_reducible refine Below.drew ?_) | (with_reducible refine Below.alloc ?_ ?_ _) | (with_reducible refine Below.setCell ?_ ?_ _) | go_size)
end
end Go.Proofs.YtdlmdaononclgaaGreatDoor
namespace Go.Proofs.YtdlmdaononclgaaGreatDoor
open Go.RowKit
set_option linter.unusedVariables false
set_option linter.unusedSimpArgs false
section
variable (xs ys:List Int) (A:Option Addr) (c:Nat) (A2:Option Addr) (c2:Nat) (hc:xs.length≤c) (hm:c≤9223372036854775807) (hc2:ys.length≤c2) (hm2:c2≤9223372036854775807)
include hc hm hc2 hm2
end
end Go.Proofs.YtdlmdaononclgaaGreatDoor
namespace Go.Proofs.YtdlmdaononclgaaGreatDoor
open Go.RowKit
set_option linter.unusedVariables false
set_option linter.unusedSimpArgs false
end Go.Proofs.YtdlmdaononclgaaGreatDoor
namespace Go.Proofs.YtdlmdaononclgaaGreatDoor
open Go.RowKit
set_option linter.unusedVariables false
set_option linter.unusedSimpArgs false
attribute [local go_sem] Oper.semAt_some
theorem OwnG.of_block {w w':World} {base:Nat} {v:Value} {gs:List (Int × Int)} (h:OwnG w base v gs) (hb:∀ b,v.ownBlock=some b→w'.heap[b]? =w.heap[b]?):OwnG w' base v gs:=by
 refine ⟨h.1,?_⟩
 rcases h.2 with hn | ⟨g,cap,cur,rfl,h1,hg,rest⟩
 ·exact .inl hn
 ·exact .inr ⟨g,cap,cur,rfl,h1,(hb g rfl).trans hg,rest⟩
theorem OwnG.less {w:World} {base base':Nat} {v:Value} {gs:List (Int × Int)} (h:OwnG w base v gs) (hb:base'≤base):OwnG w base' v gs:=by
 refine ⟨h.1,?_⟩
 rcases h.2 with hn | ⟨g,cap,cur,rfl,h1,rest⟩
 ·exact .inl hn
 ·exact .inr ⟨g,cap,cur,rfl,by omega,rest⟩
theorem OwnG.lt {w:World} {base:Nat} {v:Value} {gs:List (Int × Int)} (h:OwnG w base v gs):∀ b,v.ownBlock=some b→base≤b∧b < w.heap.size:=by
 obtain ⟨_,_,_,_,_,_,_,hb⟩:=h.form
 exact hb
variable {w:World}
end Go.Proofs.YtdlmdaononclgaaGreatDoor
namespace Go.Proofs.YtdlmdaononclgaaGreatDoor
open Go.RowKit
set_option linter.unusedVariables false
set_option linter.unusedSimpArgs false
section
variable (xs ys:List Int) (A:Option Addr) (c:Nat) (A2:Option Addr) (c2:Nat) (hc:xs.length≤c) (hm:c≤9223372036854775807) (hc2:ys.length≤c2) (hm2:c2≤9223372036854775807)
include hc hm hc2 hm2
end
end Go.Proofs.YtdlmdaononclgaaGreatDoor
namespace Go.Proofs.YtdlmdaononclgaaGreatDoor
open Go.RowKit
set_option linter.unusedVariables false
set_option linter.unusedSimpArgs false
theorem isFrac_is {n d:Int} {b:Bool} (h:okF n d=b) (n0: -9223372036854775808≤n) (n1:n≤9223372036854775807) (d0: -9223372036854775808≤d) (d1:d≤9223372036854775807) (w:World):
  Calls Tryz.prog 69 #[.agg #[.int .i64 n,.int .i64 d]] w fun e w'=>e= .returned (.bool b)∧Below w.heap.size w w':=by
 subst h;exact isFrac_any _ _ n0 n1 d0 d1 _
end Go.Proofs.YtdlmdaononclgaaGreatDoor
namespace Go.Proofs.YtdlmdaononclgaaGreatDoor
open Go.RowKit
set_option linter.unusedVariables false
set_option linter.unusedSimpArgs false
def rndR (n d x:Int):Int × Int:=if okF n d=true then (x,0) else (0,10)
theorem okF_bd' {n d:Int} (h:okF n d=true): -1000000000≤n∧n≤1000000000∧1≤d∧d≤1000000000:=by
 simp only [okF,Bool.and_eq_true] at h
 have h1:=within_true h.1.1
 have h2:=within_true h.1.2
 omega
set_option maxHeartbeats 1000000 in
theorem rounded_any (g:Nat) (eg:∀ args w,(callFunc g args).run Tryz.prog w= .ok (.enter g args) w) (n d x:Int)
   (hof:okF n d=true→∀ W,Calls Tryz.prog g #[.agg #[.int .i64 n,.int .i64 d]] W fun e w'=>e= .returned (.int .i64 x)∧Below W.heap.size W w')
   (a0: -9223372036854775808≤n) (a1:n≤9223372036854775807) (a2: -9223372036854775808≤d) (a3:d≤9223372036854775807) (w:World):
   Calls Tryz.prog 51 #[.agg #[.int .i64 n,.int .i64 d],.func (.func g) #[] #[]] w fun e w'=>e= .returned (.tuple #[.int .i64 (rndR n d x).1,.int .i64 (rndR n d x).2])∧Below w.heap.size w w':=by
 have H:=Lib.hid hof;clear hof
 cases h1:okF n d with
 | false=>
   go_enter Tryz.func51,Tryz.ntmps51
   go_wp2_with ((go_at_call 69;(with_reducible refine (isFrac_is h1 a0 a1 a2 a3 _).mono ?_);rintro e w1 ⟨rfl,hb1⟩;obtain ⟨hc1,hf1⟩:=bcell hb1;have hz1:=hb1.size;(try simp only [World.size_alloc,World.size_setCell,World.size_drew,Qac] at hz1);have z0:w.heap.size < w1.heap.size:=(by omega)))
   go_ret2
   exact ⟨by simp [rndR,h1],by repeat' (first | (with_reducible exact Below.refl _ _) | (with_reducible assumption) | (refine Qa (by assumption) ?_ ?_) | (with_reducible refine Qaa ?_ _) | (with_reducible refine Below.drew ?_) | (with_reducible refine Below.alloc ?_ ?_ _) | (with_reducible refine Below.setCell ?_ ?_ _) | go_size)⟩
 | true=>
   have H2:=Lib.hid (H.out h1);clear H
   go_enter Tryz.func51,Tryz.ntmps51
   go_wp2_with (first | (go_at_call 69;(with_reducible refine (isFrac_is h1 a0 a1 a2 a3 _).mono ?_);rintro e w1 ⟨rfl,hb1⟩;obtain ⟨hc1,hf1⟩:=bcell hb1;have hz1:=hb1.size;(try simp only [World.size_alloc,World.size_setCell,World.size_drew,Qac] at hz1);have z0:w.heap.size < w1.heap.size:=(by omega)) | (go_at_fn g;(with_reducible refine (H2.out _).mono ?_);rintro e w1 ⟨rfl,hb1⟩;obtain ⟨hc1,hf1⟩:=bcell hb1;have hz1:=hb1.size;(try simp only [World.size_alloc,World.size_setCell,World.size_drew,Qac] at hz1);have z0:w.heap.size < w1.heap.size:=(by omega)))
   go_ret2
   exact ⟨by simp [rndR,h1],by repeat' (first | (with_reducible exact Below.refl _ _) | (with_reducible assumption) | (refine Qa (by assumption) ?_ ?_) | (with_reducible refine Qaa ?_ _) | (with_reducible refine Below.drew ?_) | (with_reducible refine Below.alloc ?_ ?_ _) | (with_reducible refine Below.setCell ?_ ?_ _) | go_size)⟩
theorem ofRound (n d:Int) (h:okF n d=true) (W:World):Calls Tryz.prog 52 #[.agg #[.int .i64 n,.int .i64 d]] W fun e w'=>e= .returned (.int .i64 ((2 * n+d) / (2 * d)))∧Below W.heap.size W w':=by
 obtain ⟨a0,a1,a2,a3⟩:=okF_bd' h
 have e1:=ediv_bd n d (by omega) (by omega) (by omega)
 have e2:=ediv_bd (-n) d (by omega) (by omega) (by omega)
 clear h
 go_enter Tryz.func52,Tryz.ntmps52
 go_wp2_with (go_at_call 53;refine (floor_any _ _ (by omega) (by omega) (by omega) (by omega) _).mono ?_;rintro e w' ⟨rfl,rfl⟩)
 go_ret
 exact ⟨rfl,by repeat' (first | (with_reducible exact Below.refl _ _) | (with_reducible assumption) | (refine Qa (by assumption) ?_ ?_) | (with_reducible refine Qaa ?_ _) | (with_reducible refine Below.drew ?_) | (with_reducible refine Below.alloc ?_ ?_ _) | (with_reducible refine Below.setCell ?_ ?_ _) | go_size)⟩
set_option maxHeartbeats 1000000 in
theorem Round_any (n d:Int) (a0: -9223372036854775808≤n) (a1:n≤9223372036854775807) (a2: -9223372036854775808≤d) (a3:d≤9223372036854775807) (w:World):
  Calls Tryz.prog 30 #[.agg #[.int .i64 n,.int .i64 d]] w fun e w'=>e= .returned (.tuple #[.int .i64 (rndR n d ((2 * n+d) / (2 * d))).1,.int .i64 (rndR n d ((2 * n+d) / (2 * d))).2])∧Below w.heap.size w w':=by
 have hb:∀ W,Calls Tryz.prog 51 #[.agg #[.int .i64 n,.int .i64 d],.func (.func 52) #[] #[]] W _:=fun W=>
  rounded_any 52 (enters_of Tryz.func52 (by kernel_rfl) rfl) n d ((2 * n+d) / (2 * d)) (fun h=>ofRound n d h) a0 a1 a2 a3 W
 have H:=Lib.hid hb;clear hb
 go_enter Tryz.func30,Tryz.ntmps30
 go_wp2_with ((go_at_call 51;(with_reducible refine (H.out _).mono ?_);rintro e w1 ⟨rfl,hb1⟩;obtain ⟨hc1,hf1⟩:=bcell hb1;have hz1:=hb1.size;(try simp only [World.size_alloc,World.size_setCell,World.size_drew,Qac] at hz1);have z0:w.heap.size < w1.heap.size:=(by omega)))
 go_ret2
 exact ⟨rfl,by repeat' (first | (with_reducible exact Below.refl _ _) | (with_reducible assumption) | (refine Qa (by assumption) ?_ ?_) | (with_reducible refine Qaa ?_ _) | (with_reducible refine Below.drew ?_) | (with_reducible refine Below.alloc ?_ ?_ _) | (with_reducible refine Below.setCell ?_ ?_ _) | go_size)⟩
end Go.Proofs.YtdlmdaononclgaaGreatDoor
namespace Go.Proofs.YtdlmdaononclgaaGreatDoor
open Go.RowKit
set_option linter.unusedVariables false
set_option linter.unusedSimpArgs false
end Go.Proofs.YtdlmdaononclgaaGreatDoor
namespace Go.Proofs.YtdlmdaononclgaaGreatDoor
open Go.RowKit
set_option linter.unusedVariables false
set_option linter.unusedSimpArgs false
end Go.Proofs.YtdlmdaononclgaaGreatDoor
namespace Go.Proofs.YtdlmdaononclgaaGreatDoor
open Go.RowKit
set_option linter.unusedVariables false
set_option linter.unusedSimpArgs false
end Go.Proofs.YtdlmdaononclgaaGreatDoor
namespace Go.Proofs.YtdlmdaononclgaaGreatDoor
open Go.RowKit
set_option linter.unusedVariables false
set_option linter.unusedSimpArgs false
end Go.Proofs.YtdlmdaononclgaaGreatDoor
namespace Go.Proofs.YtdlmdaononclgaaGreatDoor
open Go.RowKit
set_option linter.unusedVariables false
set_option linter.unusedSimpArgs false
end Go.Proofs.YtdlmdaononclgaaGreatDoor
namespace Go.Proofs.YtdlmdaononclgaaGreatDoor
open Go.RowKit
set_option linter.unusedVariables false
set_option linter.unusedSimpArgs false
end Go.Proofs.YtdlmdaononclgaaGreatDoor
namespace Go.Proofs.YtdlmdaononclgaaGreatDoor
open Go.RowKit
set_option linter.unusedVariables false
set_option linter.unusedSimpArgs false
theorem make_is {n d a b e0:Int} (h:mkR n d=(a,b,e0)) (n0: -9223372036854775808≤n) (n1:n≤9223372036854775807) (d0: -9223372036854775808≤d) (d1:d≤9223372036854775807) (w:World):
  Calls Tryz.prog 29 #[.int .i64 n,.int .i64 d] w fun e w'=>e= .returned (.tuple #[.agg #[.int .i64 a,.int .i64 b],.int .i64 e0])∧Below w.heap.size w w':=by
 have:=make_any n d n0 n1 d0 d1 w
 rw [h] at this
 exact this
theorem Round_is {n d a e0:Int} (h:rndR n d ((2 * n+d) / (2 * d))=(a,e0)) (a0: -9223372036854775808≤n) (a1:n≤9223372036854775807) (a2: -9223372036854775808≤d) (a3:d≤9223372036854775807) (w:World):
  Calls Tryz.prog 30 #[.agg #[.int .i64 n,.int .i64 d]] w fun e w'=>e= .returned (.tuple #[.int .i64 a,.int .i64 e0])∧Below w.heap.size w w':=by
 have:=Round_any n d a0 a1 a2 a3 w
 rw [h] at this
 exact this
theorem Weights_is {xs ws:List Int} {n m:Nat} (hp:okP 9 100000 xs=true) (hw:Qab xs=ws) (hn:xs.length=n) (hm':ws.length=m) (A:Option Addr) (c:Nat) (hc:n≤c) (hm:c≤9223372036854775807) (w:World) (h:RD w w.heap.size A (ints xs)):
  Calls Tryz.prog 31 #[.slice A n c] w fun e w'=>∃ g,e= .returned (.tuple #[.slice (some ⟨g,0,none⟩) m m,.int .i64 0])∧w.heap.size≤g∧Arr w' g ws∧Below w.heap.size w w':=by
 subst hn;subst hm';subst hw
 exact Weights_yes hp A c hc hm w h
theorem Centre_is {xs ys:List Int} {a b e0:Int} {n m:Nat} (hr:cenR xs ys=(a,b,e0)) (hn:xs.length=n) (hm':ys.length=m) (A:Option Addr) (c:Nat) (A2:Option Addr) (c2:Nat) (hc:n≤c) (hm:c≤9223372036854775807) (hc2:m≤c2) (hm2:c2≤9223372036854775807) (w:World) (h:RD w w.heap.size A (ints xs)) (h2:RD w w.heap.size A2 (ints ys)):
  Calls Tryz.prog 32 #[.slice A n c,.slice A2 m c2] w fun e w'=>e= .returned (.tuple #[.agg #[.int .i64 a,.int .i64 b],.int .i64 e0])∧Below w.heap.size w w':=by
 subst hn;subst hm'
 have:=Centre_any xs ys A c A2 c2 hc hm hc2 hm2 w h h2
 rw [hr] at this
 exact this
theorem Litres_is {xs zs:List Int} {rs:List (List Int)} {v:Int} {n m k:Nat} (hr:Qav xs zs rs=true) (hl:volZ xs zs rs=v) (hv0: -9223372036854775807≤v) (hv1:v≤9223372036854775807) (hn:xs.length=n) (hm:zs.length=m) (hk:rs.length=k) (A1:Option Addr) (c1:Nat) (A2:Option Addr) (c2:Nat) (A3:Option Addr) (c3:Nat) (vs:List Value) (w:World) (h:TD w w.heap.size xs zs rs A1 c1 A2 c2 A3 c3 vs):
  Calls Tryz.prog 33 #[.agg #[.slice A1 n c1,.slice A2 m c2,.slice A3 k c3]] w fun e w'=>e= .returned (.tuple #[.int .i64 (v / 1296000000),.int .i64 0])∧Below w.heap.size w w':=by
 subst hn;subst hm;subst hk;subst hl
 exact Litres_yes hr hv0 hv1 A1 c1 A2 c2 A3 c3 vs w h
theorem cells2 {W w1:World} {a b:Value} {t:TypeId} (hb:Below (W.alloc (.cells #[a,b] t)).heap.size (W.alloc (.cells #[a,b] t)) w1):w1.cell? ⟨W.heap.size,0,none⟩=some a∧w1.cell? ⟨W.heap.size,1,none⟩=some b:=by
 refine ⟨?_,?_⟩
 ·rw [hb.cell (by simp)];simp [go_sem]
 ·rw [hb.cell (by simp)];simp [go_sem]
theorem Qcl {w:World} {g:Nat} {cs:List Value} {t:TypeId} {f:Nat × Nat} (h:w.heap[g]? =some (.cells cs.toArray t f)):RD w (g+1) (some ⟨g,0,none⟩) cs:=
 .inr ⟨g,0,rfl,by omega,fun j v hv=>by rw [Nat.zero_add,cell_of_row w g j _ _ _ h,List.getElem?_toArray];exact hv⟩
theorem rd_new (W:World) (xs:List Int) (g:Nat) (hg:g=W.heap.size):RD (W.alloc (.cells (ints xs).toArray 3)) (g+1) (some ⟨g,0,none⟩) (ints xs):=by
 subst hg;exact (Arr.built W xs).rd
theorem saneTable (V X:World) (q:Nat) (hq:V.heap.size=q) (hX:X=(((((V.alloc (.cells #[.int .i64 0,.int .i64 1000,.int .i64 2000] 3)).alloc (.cells #[.int .i64 0,.int .i64 1000] 3)).alloc (.cells #[.int .i64 500,.int .i64 500] 3)).alloc (.cells #[.int .i64 500,.int .i64 500] 3)).alloc (.cells #[.int .i64 500,.int .i64 500] 3)).alloc (.cells #[.slice (some ⟨q+1+1,0,none⟩) 2 2,.slice (some ⟨q+1+1+1,0,none⟩) 2 2,.slice (some ⟨q+1+1+1+1,0,none⟩) 2 2] 22)):
   TD X X.heap.size [0,1000,2000] [0,1000] [[500,500],[500,500],[500,500]] (some ⟨q,0,none⟩) 3 (some ⟨q+1,0,none⟩) 2 (some ⟨q+1+1+1+1+1,0,none⟩) 3
   [.slice (some ⟨q+1+1,0,none⟩) 2 2,.slice (some ⟨q+1+1+1,0,none⟩) 2 2,.slice (some ⟨q+1+1+1+1,0,none⟩) 2 2]:=by
 have hp:∀ (w:World) (o:Obj) (k:Nat),(w.alloc o).heap[k]? =if k=w.heap.size then some o else w.heap[k]? :=fun w o k=>by
   show (w.heap.push o)[k]? =_
   rw [Array.getElem?_push]
 have hs:X.heap.size=q+6:=by rw [hX];simp only [World.size_alloc,hq]
 have h0:X.heap[q]? =some (.cells (ints [0,1000,2000]).toArray 3 (0,0)):=by
   rw [hX];simp only [hp,World.size_alloc,hq];(repeat' split) <;> first | omega | contradiction | rfl | (exact absurd trivial (by assumption))
 have h1:X.heap[q+1]? =some (.cells (ints [0,1000]).toArray 3 (0,0)):=by
   rw [hX];simp only [hp,World.size_alloc,hq];(repeat' split) <;> first | omega | contradiction | rfl | (exact absurd trivial (by assumption))
 have h2:X.heap[q+1+1]? =some (.cells (ints [500,500]).toArray 3 (0,0)):=by
   rw [hX];simp only [hp,World.size_alloc,hq];(repeat' split) <;> first | omega | contradiction | rfl | (exact absurd trivial (by assumption))
 have h3:X.heap[q+1+1+1]? =some (.cells (ints [500,500]).toArray 3 (0,0)):=by
   rw [hX];simp only [hp,World.size_alloc,hq];(repeat' split) <;> first | omega | contradiction | rfl | (exact absurd trivial (by assumption))
 have h4:X.heap[q+1+1+1+1]? =some (.cells (ints [500,500]).toArray 3 (0,0)):=by
   rw [hX];simp only [hp,World.size_alloc,hq];(repeat' split) <;> first | omega | contradiction | rfl | (exact absurd trivial (by assumption))
 have h5:X.heap[q+1+1+1+1+1]? =some (.cells [.slice (some ⟨q+1+1,0,none⟩) 2 2,.slice (some ⟨q+1+1+1,0,none⟩) 2 2,.slice (some ⟨q+1+1+1+1,0,none⟩) 2 2].toArray 22 (0,0)):=by
   rw [hX];simp only [hp,World.size_alloc,hq];(repeat' split) <;> first | omega | contradiction | rfl | (exact absurd trivial (by assumption))
 refine ⟨by decide,by omega,(Qcl h0).more (by omega),by decide,by omega,(Qcl h1).more (by omega),by decide,by omega,⟨rfl,(Qcl h5).more (by omega),fun i hi=>?_⟩⟩
 match i,hi with
 | 0,_=>exact ⟨_,_,rfl,by decide,by omega,(Qcl h2).more (by omega)⟩
 | 1,_=>exact ⟨_,_,rfl,by decide,by omega,(Qcl h3).more (by omega)⟩
 | 2,_=>exact ⟨_,_,rfl,by decide,by omega,(Qcl h4).more (by omega)⟩
set_option maxHeartbeats 2000000 in
set_option maxRecDepth 100000 in
theorem sane_any (w:World):Calls Tryz.prog 9 #[] w fun e w'=>e= .returned (.bool true)∧Below w.heap.size w w':=by
 go_enter Tryz.func9,Tryz.ntmps9
 go_wp2_with (go_at_call 29;(refine (make_is (a:= -3) (b:=2) (e0:=0) (by decide) (by omega) (by omega) (by omega) (by omega) _).mono ?_);rintro e w1 ⟨rfl,hb1⟩)
 go_wp2_with (go_at_call 30;(refine (Round_is (a:= -1) (e0:=0) (by decide) (by omega) (by omega) (by omega) (by omega) _).mono ?_);rintro e w2 ⟨rfl,hb2⟩)
 obtain ⟨k0,k1⟩:=cells2 hb2
 have B2:=Lib.hid (Qa hb2 (hb1.alloc hb1.size _) (by simp;have:=hb1.size;omega))
 have KK:w1.heap.size < w2.heap.size:=by have:=hb2.size;simp at this;omega
 clear hb1 hb2
 go_wp2_with (go_at_call 31;(refine (Weights_is (xs:=[0,10,20,50,90]) (ws:=[120,480,660,1260,720]) (n:=5) (m:=5) (by decide) (by decide) rfl rfl _ 5 (by omega) (by omega) _ ((Arr.built _ [0,10,20,50,90]).rd.more (by simp))).mono ?_);rintro e w3 ⟨g3,rfl,hg3,ha3,hb3⟩)
 have j0:=cell_later (Qa hb3 (Below.alloc (Below.refl _ _) (Nat.le_refl _) _) (by (try simp only [World.size_alloc]);omega)) k0
 have j1:=cell_later (Qa hb3 (Below.alloc (Below.refl _ _) (Nat.le_refl _) _) (by (try simp only [World.size_alloc]);omega)) k1
 have B3:=Lib.hid (Qa hb3 (B2.out.alloc B2.out.size _) (by simp;have:=B2.out.size;omega))
 have K3:w1.heap.size < w3.heap.size:=by have:=hb3.size;simp at this;omega
 have HA3:=Lib.hid ha3
 have K3':g3 < w3.heap.size:=ha3.lt
 clear hb3 k0 k1 ha3
 go_wp2_with (go_at_call 32;(refine (Centre_is (xs:=[0,10,20]) (ys:=[1,1,1]) (a:=10) (b:=1) (e0:=0) (n:=3) (m:=3) (by decide) rfl rfl _ 3 _ 3 (by omega) (by omega) (by omega) (by omega) _ (((rd_new w3 [0,10,20] w3.heap.size rfl).keep (Below.alloc (Below.refl _ _) (Nat.le_refl _) _) (by simp)).more (by simp)) ((rd_new _ [1,1,1] _ (by simp)).more (by simp))).mono ?_);rintro e w4 ⟨rfl,hb4⟩)
 have l0:=cell_later (Qa hb4 (((Below.refl _ w3).alloc (Nat.le_refl _) _).alloc (by (try simp only [World.size_alloc]);omega) _) (by (try simp only [World.size_alloc]);omega)) j0
 have l1:=cell_later (Qa hb4 (((Below.refl _ w3).alloc (Nat.le_refl _) _).alloc (by (try simp only [World.size_alloc]);omega) _) (by (try simp only [World.size_alloc]);omega)) j1
 have B34:=Qa hb4 (((Below.refl _ w3).alloc (Nat.le_refl _) _).alloc (by (try simp only [World.size_alloc]);omega) _) (by (try simp only [World.size_alloc]);omega)
 have HA4:=Lib.hid (HA3.out.of_block (B34.block _ K3'))
 have B4:=Lib.hid (Qa B34 B3.out (by have:=B3.out.size;omega))
 have K4:w1.heap.size < w4.heap.size:=by have:=B34.size;omega
 have K4':g3 < w4.heap.size:=HA4.out.lt
 clear hb4 j0 j1 B34 HA3 hg3 K3 K3' KK B2 B3
 go_wp2_with fail
 refine (Litres_is (xs:=[0,1000,2000]) (zs:=[0,1000]) (rs:=[[500,500],[500,500],[500,500]]) (v:=2592000000000) (n:=3) (m:=2) (k:=3) (by decide) (by decide) (by omega) (by omega) rfl rfl rfl _ 3 _ 2 _ 3 _ _ (((saneTable (w4.alloc (.cells #[.int .i64 10,.int .i64 1] 63)) _ (w4.heap.size+1) (World.size_alloc _ _) rfl).keep (Below.alloc (Below.refl _ _) (Nat.le_refl _) _) (Nat.le_refl _)).more (by simp))).mono ?_
 rintro e w5 ⟨rfl,hb5⟩
 have hb45:Below w4.heap.size w4 w5:=by refine Qa hb5 ?_ ?_;(repeat' (first | (with_reducible exact Below.refl _ _) | (with_reducible assumption) | (refine Qa (by assumption) ?_ ?_) | (with_reducible refine Qaa ?_ _) | (with_reducible refine Below.drew ?_) | (with_reducible refine Below.alloc ?_ ?_ _) | (with_reducible refine Below.setCell ?_ ?_ _) | go_size))
 have m0:w5.cell? ⟨w4.heap.size,0,none⟩=some (.int .i64 10):=by rw [hb5.cell (by simp only [World.size_alloc];omega)];simp [go_sem]
 have m1:w5.cell? ⟨w4.heap.size,1,none⟩=some (.int .i64 1):=by rw [hb5.cell (by simp only [World.size_alloc];omega)];simp [go_sem]
 have n0:=cell_later hb45 l0
 have n1:=cell_later hb45 l1
 have K5:w4.heap.size < w5.heap.size:=by have:=hb5.size;simp only [World.size_alloc] at this;omega
 have HA5:=Lib.hid (HA4.out.of_block (hb45.block _ K4'))
 have K5':g3 < w5.heap.size:=HA5.out.lt
 have K5'':w1.heap.size < w5.heap.size:=by omega
 have B5:=Lib.hid (Qa hb45 B4.out B4.out.size)
 clear hb5 hb45 l0 l1 HA4 B4 K4'
 go_wp2_with fail
 refine (SameInts_is (xs:=[120,480,660,1260,720]) (ys:=[120,480,660,1260,720]) (r:=true) (by decide) _ 5 _ 5 (by decide) (by omega) (by decide) (by omega) _ ((HA5.out.of_block (Below.heap_alloc _ _ _ K5')).rd) (rd_new w5 [120,480,660,1260,720] w5.heap.size rfl)).mono ?_
 rintro e w6 ⟨rfl,q,rfl⟩
 go_wp2
 go_ret
 refine ⟨rfl,?_⟩
 have B5':=B5.out
 have z5:=B5'.size
 repeat' (first | (with_reducible exact Below.refl _ _) | (with_reducible assumption) | (refine Qa (by assumption) ?_ ?_) | (with_reducible refine Qaa ?_ _) | (with_reducible refine Below.drew ?_) | (with_reducible refine Below.alloc ?_ ?_ _) | (with_reducible refine Below.setCell ?_ ?_ _) | go_size)
end Go.Proofs.YtdlmdaononclgaaGreatDoor
namespace Go.Proofs.YtdlmdaononclgaaGreatDoor
open Go.RowKit
set_option linter.unusedVariables false
set_option linter.unusedSimpArgs false
theorem OwnI.formN {w:World} {base:Nat} {v:Value} {xs:List Int} (h:OwnI w base v xs) {n:Nat} (hn:xs.length=n):
  ∃ A cap,v= .slice A n cap∧n≤cap∧cap≤9223372036854775807∧RD w w.heap.size A (ints xs):=by
 subst hn
 obtain ⟨A,cap,h1,h2,h3,h4,_⟩:=h.form
 exact ⟨A,cap,h1,h2,h3,h4⟩
structure Own2 (w:World) (base:Nat) (v1:Value) (l1:List Int) (v2:Value) (l2:List Int):Prop where
 o1:OwnI w base v1 l1
 o2:OwnI w base v2 l2
 ne:∀ b,v1.ownBlock=some b→v2.ownBlock≠some b
theorem Own2.kept {w w':World} {base:Nat} {v1 v2:Value} {l1 l2:List Int} (h:Own2 w base v1 l1 v2 l2) {B:Nat} (hb:Below B w w') (hB:w.heap.size≤B):Own2 w' base v1 l1 v2 l2:=
 ⟨h.o1.kept hb hB,h.o2.kept hb hB,h.ne⟩
theorem OwnI.lt {w:World} {base:Nat} {v:Value} {xs:List Int} (h:OwnI w base v xs):∀ b,v.ownBlock=some b→base≤b∧b < w.heap.size:=by
 obtain ⟨_,_,_,_,_,_,_,hb⟩:=h.form
 exact hb
theorem Own2.app1 {w w':World} {base:Nat} {v1 v2 v1':Value} {l1 l2 l1':List Int} (h:Own2 w base v1 l1 v2 l2) (ho:OwnI w' base v1' l1') (hg:w.grownBy w' v1.ownBlock) (hv:v1'.ownBlock=v1.ownBlock∨v1'.ownBlock=some w.heap.size):
  Own2 w' base v1' l1' v2 l2:=by
 refine ⟨ho,h.o2.of_block (fun b hb=>hg.block b (h.o2.lt b hb).2 (fun e=>h.ne b e.symm hb)),fun b hb hb2=>?_⟩
 rcases hv with e | e
 ·exact h.ne b (e ▸ hb) hb2
 ·rw [e] at hb
  have:=(h.o2.lt b hb2).2
  simp only [Option.some.injEq] at hb
  omega
theorem SameInts_n {xs ys:List Int} {r:Bool} {n m:Nat} (hr:decide (xs=ys)=r) (hx:xs.length=n) (hy:ys.length=m) (A:Option Addr) (c:Nat) (A2:Option Addr) (c2:Nat) (hc:n≤c) (hm:c≤9223372036854775807) (hc2:m≤c2) (hm2:c2≤9223372036854775807) (w:World) {B B2:Nat} (h:RD w B A (ints xs)) (h2:RD w B2 A2 (ints ys)):
  Calls Tryz.prog 19 #[.slice A n c,.slice A2 m c2] w fun e w'=>e= .returned (.bool r)∧∃ k,w'=w.drewN k:=by
 subst hx;subst hy;exact SameInts_is hr A c A2 c2 hc hm hc2 hm2 w h h2
end Go.Proofs.YtdlmdaononclgaaGreatDoor
namespace Go.Proofs.YtdlmdaononclgaaGreatDoor
open Go.RowKit
set_option linter.unusedVariables false
set_option linter.unusedSimpArgs false
end Go.Proofs.YtdlmdaononclgaaGreatDoor
namespace Go.Proofs.YtdlmdaononclgaaGreatDoor
open Go.RowKit
set_option linter.unusedVariables false
set_option linter.unusedSimpArgs false
theorem OwnG.formN {w:World} {base:Nat} {v:Value} {gs:List (Int × Int)} (h:OwnG w base v gs) {n:Nat} (hn:gs.length=n):
  ∃ A cap,v= .slice A n cap∧n≤cap∧cap≤9223372036854775807∧GD w w.heap.size A gs:=by
 subst hn
 obtain ⟨A,cap,h1,h2,h3,h4,_⟩:=h.form
 exact ⟨A,cap,h1,h2,h3,h4⟩
end Go.Proofs.YtdlmdaononclgaaGreatDoor
namespace Go.Proofs.YtdlmdaononclgaaGreatDoor
open Go.RowKit
set_option linter.unusedVariables false
set_option linter.unusedSimpArgs false
variable {w:World}
theorem wpList_appN {ops:Array Oper} {rest:List Oper} {o:Oper} {a:Act} {Q:Exit→Act→World→Prop} (hgd:o.guard=none) (s x:Operand)
  (ho:o.op= .call {callee:=.builtin .append,args:= #[s,x],argTypes:= #[22,22]})
  (base:Nat) (v:Value) (xs:List Int) (hs:a.eval s=v) (hown:OwnI w base v xs) (b off m c:Nat) (ys:List Int) (hm:ys.length=m) (hx:a.eval x= .slice (some ⟨b,off,none⟩) m c)
  (hc:∀ j,j < m→w.cell? ⟨b,off+j,none⟩=some (.int .i64 (ix ys j)))
  (hlen:xs.length+m≤1000000) (hbase:base≤w.heap.size)
  (h:∀ v' w',OwnI w' base v' (xs ++ ys)→w.grownBy w' v.ownBlock→wpList Tryz.prog ops Q rest (a.put o.dst v') w'):wpList Tryz.prog ops Q (o :: rest) a w:=by
 subst hm
 obtain ⟨i0,hi,hz0,hz1,hz2⟩:=info_parts infoInt
 refine wpList_plain hgd fun K hK=>?_
 obtain ⟨v',w',hrun,h2,h3,_⟩:=run_append_own (P:=Tryz.prog) w base 22 o.type 3 i0 (.int .i64 0) 1 8 Tryz.underlying22 hi hz0 hz1 hz2 rfl (by decide) v xs.length (ints xs) hown
  ⟨b,off,none⟩ ys.length c (ints ys) (by rw [Qdf];omega) (fun j u hu=>by
    rw [Addr.add_lit]
    have hj:j < ys.length:=by have:=(List.getElem?_eq_some_iff.1 hu).1;rwa [Qdf] at this
    rw [hc j hj]
    rw [ints_get,List.getElem?_eq_getElem hj] at hu
    rw [←hu];simp [ix,List.getD,List.getElem?_eq_getElem hj]) (fun u hu=>by simp only [ints,List.mem_map] at hu;obtain ⟨z,_,rfl⟩:=hu;rfl) (by unfold maxLen;omega) (by omega) hbase
 unfold Oper.wp execOp
 simp only [ho,resolve,invoke,builtin,Sem.run_bind,Sem.run_pure,Result.andThen_ok,List.map_toArray,List.map_cons,List.map_nil,hs,hx,hrun]
 refine hK _ _ (h v' w' ?_ h3)
 unfold OwnI
 rw [List.length_append]
 simpa [ints] using h2
theorem OwnI.rd {base n c:Nat} {A:Option Addr} {ps:List Int} (h:OwnI w base (.slice A n c) ps):RD w w.heap.size A (ints ps):=by
 obtain ⟨A',c',h1,_,_,h4,_⟩:=h.form
 cases h1;exact h4
end Go.Proofs.YtdlmdaononclgaaGreatDoor
