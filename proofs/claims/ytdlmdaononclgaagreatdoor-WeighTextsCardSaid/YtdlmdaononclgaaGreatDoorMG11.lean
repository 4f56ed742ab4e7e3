import Derived.Test.YtdlmdaononclgaaGreatDoorMG10
import Derived.Test.YtdlmdaononclgaaGreatDoorMG4
import Derived.Test.YtdlmdaononclgaaGreatDoorMG3
import Derived.Test.YtdlmdaononclgaaGreatDoorRows
import Derived.Test.YtdlmdaononclgaaGreatDoorMG1
import Derived.ProofKit
import Derived.OpenShut
import Derived.Lib.SmallJoins
import Derived.SizedLaws
import Derived.Stop.LaidErr
import Derived.Shelf.Vars
import Derived.Lib.LaidTab
import Derived.Lib.LaidU8
import Derived.MakeChecks
import Derived.LaidMore
namespace Go.Proofs.YtdlmdaononclgaaGreatDoor
open Go.RowKit
set_option linter.unusedVariables false
set_option linter.unusedSimpArgs false
theorem parW_long {l:List UInt8} (h:4000 < l.length):parW l=⟨[],[],[],0,2⟩:=by unfold parW;exact if_pos h
theorem Parse_all (s:ByteArray) (w:World) (t:Txt w):Calls Tryz.prog 4 #[.string s] w (ParQ (parW s.data.toList) w):=by
 by_cases h:4000 < s.size
 ·rw [parW_long (by rw [Array.length_toList];exact h)]
  exact Parse_long s h w
 ·exact Parse_any s h w t
theorem refParse_all (s:ByteArray) (w:World):Calls Tryz.prog 5 #[.string s] w (ParQ (parW s.data.toList) w):=by
 by_cases h:4000 < s.size
 ·rw [parW_long (by rw [Array.length_toList];exact h)]
  exact refParse_long s h w
 ·exact refParse_any s h w
set_option maxHeartbeats 4000000 in
set_option maxRecDepth 20000 in
theorem SameTable_same {xs zs:List Int} {rs:List (List Int)} {n1 n2 n3:Nat} (g1:xs.length=n1) (g2:zs.length=n2) (g3:rs.length=n3) (A1:Option Addr) (c1:Nat) (A2:Option Addr) (c2:Nat) (A3:Option Addr) (c3:Nat) (vs:List Value) (B1:Option Addr) (d1:Nat) (B2:Option Addr) (d2:Nat) (B3:Option Addr) (d3:Nat) (us:List Value) (w:World)
  (h:TD w w.heap.size xs zs rs A1 c1 A2 c2 A3 c3 vs) (h2:TD w w.heap.size xs zs rs B1 d1 B2 d2 B3 d3 us):
  Calls Tryz.prog 6 #[.agg #[.slice A1 n1 c1,.slice A2 n2 c2,.slice A3 n3 c3],.agg #[.slice B1 n1 d1,.slice B2 n2 d2,.slice B3 n3 d3]] w fun e w'=>e= .returned (.bool true)∧Below w.heap.size w w':=by
 have k1:=g1 ▸ h.hc1
 have k2:=g2 ▸ h.hc2
 have k3:=g3 ▸ h.hc3
 have j1:=g1 ▸ h2.hc1
 have j2:=g2 ▸ h2.hc2
 have j3:=g3 ▸ h2.hc3
 have S1:Hid (∀ W,Below w.heap.size w W→Calls Tryz.prog 19 #[.slice A1 n1 c1,.slice B1 n1 d1] W fun e w'=>e= .returned (.bool true)∧∃ k,w'=W.drewN k):=Lib.hid (fun W hB=>SameInts_n (decide_eq_true rfl) g1 g1 A1 c1 B1 d1 k1 h.hm1 j1 h2.hm1 W (h.rd1.keep hB (Nat.le_refl _)) (h2.rd1.keep hB (Nat.le_refl _)))
 have S2:Hid (∀ W,Below w.heap.size w W→Calls Tryz.prog 19 #[.slice A2 n2 c2,.slice B2 n2 d2] W fun e w'=>e= .returned (.bool true)∧∃ k,w'=W.drewN k):=Lib.hid (fun W hB=>SameInts_n (decide_eq_true rfl) g2 g2 A2 c2 B2 d2 k2 h.hm2 j2 h2.hm2 W (h.rd2.keep hB (Nat.le_refl _)) (h2.rd2.keep hB (Nat.le_refl _)))
 have S3:Hid (∀ W,Below w.heap.size w W→Calls Tryz.prog 20 #[.slice A3 n3 c3,.slice B3 n3 d3] W fun e w'=>e= .returned (.bool true)∧Below W.heap.size W w'):=Lib.hid (fun W hB=>SameRows_same g3 A3 c3 B3 d3 vs us k3 h.hm3 j3 h2.hm3 W ((h.keep hB (Nat.le_refl _)).more hB.size).rd3 ((h2.keep hB (Nat.le_refl _)).more hB.size).rd3)
 clear h h2 g1 g2 g3 k1 k2 k3 j1 j2 j3
 go_enter Tryz.func6,Tryz.ntmps6
 go_wp2_with (first | (go_at_call 19;(with_reducible refine (S1.out _ (by repeat' (first | (with_reducible exact Below.refl _ _) | (with_reducible assumption) | (refine Qa (by assumption) ?_ ?_) | (with_reducible refine Qaa ?_ _) | (with_reducible refine Below.drew ?_) | (with_reducible refine Below.alloc ?_ ?_ _) | (with_reducible refine Below.setCell ?_ ?_ _) | go_size))).mono ?_);rintro e w' ⟨rfl,k1,rfl⟩) | (go_at_call 19;(with_reducible refine (S2.out _ (by repeat' (first | (with_reducible exact Below.refl _ _) | (with_reducible assumption) | (refine Qa (by assumption) ?_ ?_) | (with_reducible refine Qaa ?_ _) | (with_reducible refine Below.drew ?_) | (with_reducible refine Below.alloc ?_ ?_ _) | (with_reducible refine Below.setCell ?_ ?_ _) | go_size))).mono ?_);rintro e w' ⟨rfl,k2,rfl⟩) | (go_at_call 20;(with_reducible refine (S3.out _ (by repeat' (first | (with_reducible exact Below.refl _ _) | (with_reducible assumption) | (refine Qa (by assumption) ?_ ?_) | (with_reducible refine Qaa ?_ _) | (with_reducible refine Below.drew ?_) | (with_reducible refine Below.alloc ?_ ?_ _) | (with_reducible refine Below.setCell ?_ ?_ _) | go_size))).mono ?_);rintro e w' ⟨rfl,hb3⟩))
 go_ret
 refine ⟨rfl,?_⟩
 repeat' (first | (with_reducible exact Below.refl _ _) | (with_reducible assumption) | (refine Qa (by assumption) ?_ ?_) | (with_reducible refine Qaa ?_ _) | (with_reducible refine Below.drew ?_) | (with_reducible refine Below.alloc ?_ ?_ _) | (with_reducible refine Below.setCell ?_ ?_ _) | go_size)
set_option maxHeartbeats 8000000 in
set_option maxRecDepth 100000 in
theorem weighTexts_walk (s:ByteArray) (sx zx hs:List Int) (A1:Option Addr) (c1:Nat) (A2:Option Addr) (c2:Nat) (A3:Option Addr) (c3:Nat) (hc1:sx.length≤c1) (hm1:c1≤17592186043904) (hc2:zx.length≤c2) (hm2:c2≤17592186043904) (hc3:hs.length≤c3) (hm3:c3≤17592186043904) (w:World)
  (h1:RD w w.heap.size A1 (ints sx)) (h2:RD w w.heap.size A2 (ints zx)) (h3:RD w w.heap.size A3 (ints hs)) (bd1:∀ j, -9223372036854775808≤ix sx j∧ix sx j≤9223372036854775807) (bd2:∀ j, -9223372036854775808≤ix zx j∧ix zx j≤9223372036854775807) (bd3:∀ j, -9223372036854775808≤ix hs j∧ix hs j≤9223372036854775807) (t:Txt w):
  Calls Tryz.prog 3 #[.string s,.agg #[.slice A1 sx.length c1,.slice A2 zx.length c2,.slice A3 hs.length c3]] w fun e w'=>e= .returned (.bool true)∧Below w.heap.size w w':=by
 have HT:Hid (∀ W,Below w.heap.size w W→Calls Tryz.prog 7 #[.slice A1 sx.length c1,.slice A2 zx.length c2,.slice A3 hs.length c3] W (RetTb W)):=Lib.hid (fun W hb=>Table_any sx zx hs A1 c1 A2 c2 A3 c3 hc1 hm1 hc2 hm2 hc3 hm3 W ((h1.keep hb (Nat.le_refl _)).more hb.size) ((h2.keep hb (Nat.le_refl _)).more hb.size) ((h3.keep hb (Nat.le_refl _)).more hb.size) bd1 bd2 bd3)
 have PA:Hid (∀ q W,Below w.heap.size w W→Calls Tryz.prog 4 #[.string q] W (ParQ (parW q.data.toList) W)):=Lib.hid (fun q W hB=>Parse_all q W (t.keep hB))
 have P1:Hid (∀ W,Below w.heap.size w W→Calls Tryz.prog 4 #[.string s] W (ParQ (parW s.data.toList) W)):=Lib.hid (fun W hB=>Parse_all s W (t.keep hB))
 have P2:Hid (∀ W,Calls Tryz.prog 5 #[.string s] W (ParQ (parW s.data.toList) W)):=Lib.hid (fun W=>refParse_all s W)
 have PP:Hid (∀ W,Below w.heap.size w W→Pow W):=Lib.hid (fun W hB=>t.pow.keep hB)
 obtain ⟨⟨xs,zs,rs,at',e0⟩,hr⟩:∃ r,parW s.data.toList=r:=⟨_,rfl⟩
 rw [hr] at P1 P2
 obtain ⟨l1,hl1⟩:∃ n,sx.length=n:=⟨_,rfl⟩
 obtain ⟨l2,hl2⟩:∃ n,zx.length=n:=⟨_,rfl⟩
 obtain ⟨l3,hl3⟩:∃ n,hs.length=n:=⟨_,rfl⟩
 rw [hl1,hl2,hl3] at HT ⊢
 clear hr h1 h2 h3 bd1 bd2 bd3 hl1 hl2 hl3 t hc1 hm1 hc2 hm2 hc3 hm3
 have B0:Below w.heap.size w (w.alloc (.cells #[.slice A1 l1 c1,.slice A2 l2 c2,.slice A3 l3 c3] 23)):=Below.alloc (Below.refl _ _) (Nat.le_refl _) _
 have HB0:=Lib.hid B0
 clear B0
 go_enter Tryz.func3,Tryz.ntmps3
 go_wp2_with fail
 refine (P1.out _ HB0.out).mono ?_
 rintro e W1 ⟨B1,d1,B2,d2,B3,d3,vs,rfl,td1,hb1⟩
 simp only at td1
 obtain ⟨q0,q1,q2⟩:=cells_box3 hb1
 have HB1:=Lib.hid (Qa hb1 HB0.out HB0.out.size)
 obtain ⟨n1,hn1⟩:∃ n,xs.length=n:=⟨_,rfl⟩
 obtain ⟨n2,hn2⟩:∃ n,zs.length=n:=⟨_,rfl⟩
 obtain ⟨n3,hn3⟩:∃ n,rs.length=n:=⟨_,rfl⟩
 have N1:=Lib.hid hn1
 have N2:=Lib.hid hn2
 have N3:=Lib.hid hn3
 have T1:=Lib.hid td1
 simp only [hn1,hn2,hn3]
 have HS1:w.heap.size < W1.heap.size:=by have:=hb1.size;simp only [World.size_alloc] at this;omega
 clear hn1 hn2 hn3 td1 hb1 HB0
 go_wp2_with fail
 refine (P2.out _).mono ?_
 rintro e W2 ⟨E1,f1,E2,f2,E3,f3,us,rfl,td2,hb2⟩
 simp only at td2
 obtain ⟨a0,a1,a2⟩:=cells_box3 hb2
 have HB2:=Lib.hid (Qa hb2 (Below.alloc HB1.out HB1.out.size _) (by have:=HB1.out.size;simp only [World.size_alloc];omega))
 simp only [N1.out,N2.out,N3.out]
 have hb12:Below W1.heap.size W1 W2:=Qa hb2 (Below.alloc (Below.refl _ _) (Nat.le_refl _) _) (by simp)
 replace q0:=cell_later hb12 q0
 replace q1:=cell_later hb12 q1
 replace q2:=cell_later hb12 q2
 have S1:Hid (∀ W,Below W2.heap.size W2 W→Calls Tryz.prog 6 #[.agg #[.slice B1 n1 d1,.slice B2 n2 d2,.slice B3 n3 d3],.agg #[.slice E1 n1 f1,.slice E2 n2 f2,.slice E3 n3 f3]] W fun e w'=>e= .returned (.bool true)∧Below W.heap.size W w'):=Lib.hid (fun W hW=>SameTable_same N1.out N2.out N3.out B1 d1 B2 d2 B3 d3 vs E1 f1 E2 f2 E3 f3 us W ((((T1.out.keep hb12 (Nat.le_refl _)).more hb12.size).keep hW (Nat.le_refl _)).more hW.size) ((td2.keep hW (Nat.le_refl _)).more hW.size))
 have HS2:W1.heap.size < W2.heap.size:=by have:=hb2.size;simp only [World.size_alloc] at this;omega
 clear td2 hb2 hb12 HB1 T1 P1 P2
 go_wp2_with fail
 refine (S1.out _ (by repeat' (first | (with_reducible exact Below.refl _ _) | (with_reducible assumption) | (refine Qa (by assumption) ?_ ?_) | (with_reducible refine Qaa ?_ _) | (with_reducible refine Below.drew ?_) | (with_reducible refine Below.alloc ?_ ?_ _) | (with_reducible refine Below.setCell ?_ ?_ _) | go_size))).mono ?_
 rintro e W3 ⟨rfl,hb3⟩
 have hb23:Below W2.heap.size W2 W3:=Qa hb3 (Below.alloc (Below.refl _ _) (Nat.le_refl _) _) (by simp)
 replace q0:=cell_later hb23 q0
 replace q1:=cell_later hb23 q1
 replace q2:=cell_later hb23 q2
 have HB3:=Lib.hid (Qa hb23 HB2.out HB2.out.size)
 clear S1 hb3 hb23 HB2 a0 a1 a2
 go_wp2_with fail
 refine (HT.out _ HB3.out).mono ?_
 rintro e W4 ⟨xs,zs,rs,B1,d1,B2,d2,B3,d3,vs,rfl,td4,htb,hb4⟩
 have hpr:=par_print htb
 have eV:printV xs zs rs=Qbr xs zs rs:=by unfold printV;exact if_pos htb
 have eE:tabE xs zs rs=0:=by unfold tabE;rw [htb];rfl
 have HB4:=Lib.hid (Qa hb4 HB3.out HB3.out.size)
 have PR:Hid (∀ W,Below W4.heap.size W4 W→Calls Tryz.prog 8 #[.agg #[.slice B1 xs.length d1,.slice B2 zs.length d2,.slice B3 rs.length d3]] W fun e w'=>e= .returned (.tuple #[.string ⟨(Qbr xs zs rs).toArray⟩,.int .i64 0])∧Below W.heap.size W w'):=Lib.hid (fun W hW=>by
  have:=Print_any B1 d1 B2 d2 B3 d3 vs W ((td4.keep hW (Nat.le_refl _)).more hW.size) (PP.out W (Qa hW HB4.out HB4.out.size))
  rw [eV,eE] at this
  exact this)
 have P5:Hid (∀ W,Below W4.heap.size W4 W→Calls Tryz.prog 4 #[.string ⟨(Qbr xs zs rs).toArray⟩] W (ParQ ⟨xs,zs,rs,0,0⟩ W)):=Lib.hid (fun W hW=>by
  have:=PA.out ⟨(Qbr xs zs rs).toArray⟩ W (Qa hW HB4.out HB4.out.size)
  rw [show (⟨(Qbr xs zs rs).toArray⟩:ByteArray).data.toList=Qbr xs zs rs from rfl,hpr] at this
  exact this)
 obtain ⟨pt,hpt⟩:∃ x:List UInt8,Qbr xs zs rs=x:=⟨_,rfl⟩
 rw [hpt] at PR P5
 obtain ⟨m1,hm1⟩:∃ n,xs.length=n:=⟨_,rfl⟩
 obtain ⟨m2,hm2⟩:∃ n,zs.length=n:=⟨_,rfl⟩
 obtain ⟨m3,hm3⟩:∃ n,rs.length=n:=⟨_,rfl⟩
 have M1:=Lib.hid hm1
 have M2:=Lib.hid hm2
 have M3:=Lib.hid hm3
 have T4:=Lib.hid td4
 rw [hm1,hm2,hm3] at PR ⊢
 clear hm1 hm2 hm3 td4 htb hpr eV eE hpt hb4 PA PP HT HB3 q0 q1 q2
 go_wp2_with fail
 have hbx:(W4.alloc (.cells #[.slice B1 m1 d1,.slice B2 m2 d2,.slice B3 m3 d3] 26)).heap[W4.heap.size]? =some (.cells #[.slice B1 m1 d1,.slice B2 m2 d2,.slice B3 m3 d3] 26 (0,0)):=heap_alloc_new W4 _
 obtain ⟨q0,q1,q2,_,qz⟩:=Qay hbx
 refine (PR.out _ (by repeat' (first | (with_reducible exact Below.refl _ _) | (with_reducible assumption) | (refine Qa (by assumption) ?_ ?_) | (with_reducible refine Qaa ?_ _) | (with_reducible refine Below.drew ?_) | (with_reducible refine Below.alloc ?_ ?_ _) | (with_reducible refine Below.setCell ?_ ?_ _) | go_size))).mono ?_
 rintro e W5 ⟨rfl,hb5⟩
 replace q0:=cell_later hb5 q0
 replace q1:=cell_later hb5 q1
 replace q2:=cell_later hb5 q2
 have hb45:Below W4.heap.size W4 W5:=Qa hb5 (Below.alloc (Below.refl _ _) (Nat.le_refl _) _) (by simp)
 have HB5:=Lib.hid hb45
 have HZ5:W4.heap.size < W5.heap.size:=by have:=hb5.size;simp only [World.size_alloc] at this;omega
 clear hb5 hb45 hbx qz
 go_wp2_with fail
 refine (P5.out _ HB5.out).mono ?_
 rintro e W6 ⟨E1,f1,E2,f2,E3,f3,us,rfl,td6,hb6⟩
 simp only at td6
 simp only [M1.out,M2.out,M3.out]
 have hb46:=Qa hb6 HB5.out HB5.out.size
 replace q0:=cell_later hb6 q0
 replace q1:=cell_later hb6 q1
 replace q2:=cell_later hb6 q2
 have S6:Hid (∀ W,Below W6.heap.size W6 W→Calls Tryz.prog 6 #[.agg #[.slice B1 m1 d1,.slice B2 m2 d2,.slice B3 m3 d3],.agg #[.slice E1 m1 f1,.slice E2 m2 f2,.slice E3 m3 f3]] W fun e w'=>e= .returned (.bool true)∧Below W.heap.size W w'):=Lib.hid (fun W hW=>SameTable_same M1.out M2.out M3.out B1 d1 B2 d2 B3 d3 vs E1 f1 E2 f2 E3 f3 us W ((((T4.out.keep hb46 (Nat.le_refl _)).more hb46.size).keep hW (Nat.le_refl _)).more hW.size) ((td6.keep hW (Nat.le_refl _)).more hW.size))
 have HB6:=Lib.hid (Qa hb46 HB4.out HB4.out.size)
 have HZ6:W4.heap.size < W6.heap.size:=by have:=hb46.size;have:=hb6.size;omega
 clear td6 hb6 hb46 HB5 T4 PR P5
 go_wp2_with fail
 refine (S6.out _ (by repeat' (first | (with_reducible exact Below.refl _ _) | (with_reducible assumption) | (refine Qa (by assumption) ?_ ?_) | (with_reducible refine Qaa ?_ _) | (with_reducible refine Below.drew ?_) | (with_reducible refine Below.alloc ?_ ?_ _) | (with_reducible refine Below.setCell ?_ ?_ _) | go_size))).mono ?_
 rintro e W7 ⟨rfl,hb7⟩
 have HB7:=Lib.hid (Qa hb7 (Below.alloc HB6.out HB6.out.size _) (by have:=HB6.out.size;simp only [World.size_alloc];omega))
 clear hb7 HB6 S6 q0 q1 q2
 go_wp2_with (go_at_call 9;(with_reducible refine (sane_any _).mono ?_);rintro e W8 ⟨rfl,hb8⟩;have HB8:=Lib.hid (Qa hb8 HB7.out HB7.out.size);clear hb8)
 go_ret
 exact ⟨rfl,HB8.out⟩
end Go.Proofs.YtdlmdaononclgaaGreatDoor
namespace Go.Proofs.YtdlmdaononclgaaGreatDoor
open Go.ChangeShapes Go.WideShapes Go.ChangeAt Go.RowKit
set_option linter.unusedVariables false
set_option linter.unusedSimpArgs false
section
variable {H:Type} {enc:TypeId × Value→H} {P:Program}
theorem trodAll_below (hl:laidOutB P=true) {W W':World} (hb:Below W.heap.size W W'):∀ {ts:List TypeId} {vs:List Value} {ds:List (DataW H)} {ps:List MemPlace},(∀ t∈ts,P.readableRec t=true∧t < P.types.size)→
   DataW.TrodAll enc P W 0 (fun _=>true) true ts vs ds ps→(∀ x∈ps,x.block < W.heap.size)→∀ sp:Nat→Bool,(∀ p∈ps,sp p.block=true)→DataW.TrodAll enc P W' 0 sp true ts vs ds ps
 | [],vs,ds,ps,_,h,_,sp,_=>by
   obtain ⟨rfl,rfl,rfl⟩:=trodAll_nil h;exact trodAll_mk0
 | t :: ts,vs,ds,ps,ht,h,hlt,sp,hsp=>by
   obtain ⟨v0,vs0,d0,ds0,p0,q0,rfl,rfl,rfl,h0,r0⟩:=trodAll_cons h
   have hh:=ht t List.mem_cons_self
   exact trodAll_cons_mk (WideElems.Trod_stays hl hh.1 hh.2 h0 (fun x hx=>hb.same (hlt x (List.mem_append_left _ hx))) (fun x hx=>hsp x (List.mem_append_left _ hx)))
    (trodAll_below hl hb (fun u hu=>ht u (List.mem_cons_of_mem _ hu)) r0 (fun x hx=>hlt x (List.mem_append_right _ hx)) sp (fun x hx=>hsp x (List.mem_append_right _ hx)))
theorem post_law {f:Func} {s:ChangeSpec} {apart fresh handsOn again:Bool} {W W':World} {args:Array Value} {ds gs:List (DataW H)} {before:List MemPlace} {tb:TypeId} (hl:laidOutB P=true)
  (hr0:f.params.toList.all (fun t=>P.readableRec t && decide (t < P.types.size))=true) (hrt:f.resultTypes= #[tb]) (hbt:P.underlying tb=some .bool) (hsv:s.vars=[])
  (hfn:(s.fn H (ds ++ gs)).results=[.lit (.bool true)]∧(s.fn H (ds ++ gs)).args=ds∧(s.fn H (ds ++ gs)).vars=[])
  (hW:DataW.Whole enc P f.params.toList s.vars apart W args.toList ds gs before) (hb:Below W.heap.size W W'):s.post enc P f apart fresh handsOn again W args (.bool true) W':=by
 have hr:∀ t∈f.params.toList,P.readableRec t=true∧t < P.types.size:=fun t ht=>by
  have:=List.all_eq_true.1 hr0 t ht
  simpa using this
 obtain ⟨p,q,hA,hV,hpq,hfz,hnd⟩:=id hW
 rw [hsv] at hV
 obtain ⟨_,rfl⟩:=trodVars_none hV
 have hlt:∀ x∈before,x.block < W.heap.size:=fun x hx=>by simpa using hW.lt x hx
 rw [List.append_nil] at hpq
 subst hpq
 have hargs:∀ sp:Nat→Bool,(∀ p∈before,sp p.block=true)→DataW.TrodAll enc P W' 0 sp true f.params.toList args.toList (s.fn H (ds ++ gs)).args before:=fun sp hsp=>by
  rw [hfn.2.1];exact trodAll_below hl hb hr hA hlt sp hsp
 have hres:∀ (b:Nat) (sp:Nat→Bool) (hd:Bool),DataW.TrodAll enc P W' b sp hd f.resultTypes.toList ((Value.bool true).resultList f.resultTypes.size) (s.fn H (ds ++ gs)).results []:=fun b sp hd=>by
  rw [hfn.1,hrt];exact trodAll_mk1 (shut_bool hbt true)
 have hvars:∀ sp:Nat→Bool,DataW.TrodVars enc P W' sp s.vars (s.fn H (ds ++ gs)).vars []:=fun sp=>by
  rw [hsv,hfn.2.2];rfl
 have hok:∀ (j:Nat) (t:TypeId) (r:Value),f.resultTypes[j]? =some t→((Value.bool true).resultList f.resultTypes.size)[j]? =some r→Value.okWide P W' .any 0 t r:=ok_one hrt rfl (okWide_bool_mk hbt true)
 have hold:∀ p∈before,(fun b=>decide (b < W.heap.size)) p.block=true:=fun p hp=>by simpa using hlt p hp
 refine ⟨ds,gs,before,[],before,[],hW,hres _ _ _,hargs _ hold,hvars _,World.keptBut_mono (fun p hp=>⟨hp,?_⟩) (hb.frame (· ∈before)),fun _=>?_⟩
 ·exact Or.inr (by simpa using hp)
 ·refine ⟨hok,_,_,([] ++ before) ++ [],⟨[] ++ before,[],trodAll_append (hargs _ (fun _ _=>rfl)) (hres _ _ _),hvars _,rfl,?_,?_⟩,?_⟩
  · intro b off hp
    have hin:MemPlace.cell b off∈before:=by simpa using hp
    rw [hb.frozen (hlt _ hin)]
    exact hfz b off hin
  · intro ha
    simpa using hnd ha
  · intro p hp _
    simpa using hp
theorem open_list' {W:World} {T E:TypeId} {v:Value} {fuel:Nat} {y:DataW H × List MemPlace} (ht:P.underlying T=some (.slice E)) (he:P.underlying E=some (.int .i64)) (hc:P.cellsOf E=1)
  (hf:DataW.trod enc P W 0 (fun _=>true) true fuel T [v]=some y):
  ∃ A c,∃ xs:List Int,v= .slice A xs.length c∧xs.length≤c∧c≤9223372036854775807∧RD W W.heap.size A (ints xs)∧∀ j, -9223372036854775808≤ix xs j∧ix xs j≤9223372036854775807:=by
 rcases open_ints ht he hc hf with ⟨hcs,_⟩ | ⟨a,len,cap,zs,hcs,_,hle,hm,hz,_,hcell,hwf⟩
 ·simp only [List.cons.injEq,and_true] at hcs
  subst hcs
  exact ⟨none,0,[],rfl,Nat.le_refl _,by omega,RD.nil _ _ _,fun j=>by simp [ix]⟩
 ·simp only [List.cons.injEq,and_true] at hcs
  subst hcs
  rw [if_pos rfl] at hz
  have hxl:(zs.take len).length=len:=by rw [List.length_take,hz];omega
  have hix:∀ j,j < len→ix (zs.take len) j=zs.getD j 0:=fun j hj=>by simp [ix,List.getD,hj]
  refine ⟨some a,cap,zs.take len,by rw [hxl],by rw [hxl];exact hle,by unfold maxLen at hm;exact hm,?_,fun j=>?_⟩
  · by_cases h0:len=0
    ·left;subst h0;simp [ints]
    ·obtain ⟨b,off,rfl,hcl⟩:=ints_at hcell (by omega)
     have hb:b < W.heap.size:=by
      have:=hcl 0 (by omega)
      unfold World.cell? at this
      refine Decidable.byContradiction fun hn=>?_
      rw [Array.getElem?_eq_none (show W.heap.size≤(Addr.mk b (off+0) none).block by show W.heap.size≤b;omega)] at this
      simp at this
     refine .inr ⟨b,off,rfl,hb,fun j v hv=>?_⟩
     rw [ints_get] at hv
     have hj:j < len:=by
      refine Decidable.byContradiction fun hn=>?_
      rw [List.getElem?_eq_none (by rw [hxl];omega)] at hv
      simp at hv
     have e:=hcl j (by omega)
     rw [e]
     rw [List.getElem?_eq_getElem (by rw [hxl];exact hj)] at hv
     simp only [Option.map_some,Option.some.injEq] at hv
     rw [←hv]
     simp [List.getD,List.getElem?_eq_getElem (show j < zs.length by omega)]
  · by_cases hj:j < len
    ·rw [hix j hj];have:=range_i64 hwf j;simpa [List.getD] using this
    ·have:ix (zs.take len) j=0:=by simp [ix,List.getD,List.getElem?_eq_none (show (zs.take len).length≤j by omega)]
     rw [this];omega
end
theorem own:ownKnob Tryz.prog.godebug=none:=by kernel_rfl
theorem laidOut:laidOutB Tryz.prog=true:=by kernel_rfl
theorem cellsInt:Tryz.prog.cellsOf 3=1:=by kernel_rfl
end Go.Proofs.YtdlmdaononclgaaGreatDoor
namespace Go.Proofs.YtdlmdaononclgaaGreatDoor
open Go.ChangeShapes Go.WideShapes Go.ChangeAt Go.RowKit
set_option linter.unusedVariables false
set_option linter.unusedSimpArgs false
section
variable {H:Type} {enc:TypeId × Value→H} {P:Program}
def LR (W:World) (v:Value):Prop:=∃ A c,∃ xs:List Int,v= .slice A xs.length c∧xs.length≤c∧c≤17592186043904∧RD W W.heap.size A (ints xs)∧∀ j, -9223372036854775808≤ix xs j∧ix xs j≤9223372036854775807
theorem open_LR' {W:World} {T E:TypeId} {v:Value} {fuel:Nat} {y:DataW H × List MemPlace} (ht:P.underlying T=some (.slice E)) (he:P.underlying E=some (.int .i64)) (hc:P.cellsOf E=1) (h8:P.bytesOf E=8)
  (hf:DataW.trod enc P W 0 (fun _=>true) true fuel T [v]=some y) (hR:∀ n∈y.1.weights P T,n≤reachBytes):LR W v:=by
 obtain ⟨A,c,xs,rfl,h1,h2,h3,h4⟩:=open_list' ht he hc hf
 refine ⟨A,c,xs,rfl,h1,?_,h3,h4⟩
 rcases open_ints ht he hc hf with ⟨hcs,_⟩ | ⟨a,len,cap,zs,hcs,_,hle,hm,hz,rfl,hcell,hwf⟩
 ·simp only [List.cons.injEq,and_true,Value.slice.injEq] at hcs
  omega
 ·simp only [List.cons.injEq,and_true,Value.slice.injEq] at hcs
  obtain ⟨_,_,e⟩:=hcs
  rw [if_pos rfl] at hz
  have:=hR (((lits (H:=H) .i64 (zs.take len)).length+(lits (H:=H) .i64 (zs.drop len)).length) * P.bytesOf E) (by simp [DataW.weights,ht])
  simp only [lits,List.length_map,List.length_take,List.length_drop,h8,reachBytes] at this
  omega
theorem weightsAll_mem {e:TypeId}:∀ {l:List (DataW H)} {d:DataW H},d∈l→∀ n∈d.weights P e,n∈DataW.weightsAll P e l
 | a :: l,d,hd,n,hn=>by
   simp only [DataW.weightsAll,List.mem_append]
   rcases List.mem_cons.1 hd with rfl | h
   ·exact .inl hn
   ·exact .inr (weightsAll_mem h n hn)
theorem open_LRs {W:World} {T E L:TypeId} {n:Nat} {v:Value} {d:DataW H} {p:List MemPlace} {b0:Nat} (ht:P.underlying T=some (.array n L)) (hc:P.cellsOf L=1) (hT:P.cellsOf T=n) (hL:P.underlying L=some (.slice E)) (he:P.underlying E=some (.int .i64)) (hE:P.cellsOf E=1) (h8:P.bytesOf E=8)
  (hv:Value.okWide P W .any b0 T v) (h:DataW.Trod enc P W 0 (fun _=>true) true T v d p) (hR:∀ n∈d.weights P T,n≤reachBytes):∃ cs:List Value,v= .agg cs.toArray∧cs.length=n∧∀ x∈cs,LR W x:=by
 simp only [Value.okWide,ht] at hv
 obtain ⟨cs,rfl,hsz,_⟩:=hv
 obtain ⟨fuel,hf⟩:=h
 obtain ⟨xs,m,_,hd,hl,hxl,hx⟩:=DataW.trod_array ht hf
 simp only [Prod.mk.injEq] at hd
 obtain ⟨rfl,_⟩:=hd
 refine ⟨cs.toList,rfl,by rw [Array.length_toList,hsz,hT],fun x hmem=>?_⟩
 obtain ⟨i,hi',hix⟩:=List.getElem_of_mem hmem
 have hi:i < n:=by rw [Array.length_toList,hsz,hT] at hi';exact hi'
 have h1:=hx i hi
 rw [hc] at h1
 simp only [Value.cells,Nat.mul_one] at h1
 have hdr:(cs.toList.drop i).take 1=[x]:=by
  rw [List.take_one,List.head?_drop,List.getElem?_eq_getElem hi',hix];rfl
 rw [hdr,List.getElem?_eq_getElem (by omega)] at h1
 refine open_LR' hL he hE h8 h1 (fun k hk=>hR k ?_)
 simp only [DataW.weights,ht]
 exact weightsAll_mem (List.mem_map.2 ⟨_,List.getElem_mem _,rfl⟩) k hk
theorem open_LR3 {W:World} {T E L:TypeId} {v:Value} {d:DataW H} {p:List MemPlace} {b0:Nat} (ht:P.underlying T=some (.array 3 L)) (hc:P.cellsOf L=1) (hT:P.cellsOf T=3) (hL:P.underlying L=some (.slice E)) (he:P.underlying E=some (.int .i64)) (hE:P.cellsOf E=1) (h8:P.bytesOf E=8)
   (hv:Value.okWide P W .any b0 T v) (h:DataW.Trod enc P W 0 (fun _=>true) true T v d p) (hR:∀ n∈d.weights P T,n≤reachBytes):∃ x y z,v= .agg #[x,y,z]∧LR W x∧LR W y∧LR W z:=by
 obtain ⟨cs,rfl,hl,hx⟩:=open_LRs ht hc hT hL he hE h8 hv h hR
 match cs,hl with
 | [x,y,z],_=>exact ⟨x,y,z,rfl,hx x (by simp),hx y (by simp),hx z (by simp)⟩
theorem reach_at {ts:List TypeId} {ds:List (DataW H)} (h:(DataW.weightsEach P ts ds).all (· ≤reachBytes)=true) {j:Nat} {T:TypeId} {d:DataW H} (ht:ts[j]? =some T) (hd:ds[j]? =some d):∀ n∈d.weights P T,n≤reachBytes:=fun n hn=>by
 have:=List.all_eq_true.1 h _ (DataW.weights_mem_each ht hd n hn)
 simpa using this
end
theorem bytesInt:Tryz.prog.bytesOf 3=8:=by kernel_rfl
end Go.Proofs.YtdlmdaononclgaaGreatDoor
namespace Go.Proofs.YtdlmdaononclgaaGreatDoor
open Go Go.ChangeShapes Go.WideShapes Go.ChangeAt Go.RowKit
set_option linter.unusedVariables false
set_option linter.unusedSimpArgs false
section
variable {H:Type} {enc:TypeId × Value→H}
theorem returns_shaped_and {a:Assume} {C:Checked} {os:Os} {f:FuncId} {fn:Func} {s:ChangeSpec} {conds:List PathCond} {apart fresh handsOn again:Bool} {X:World→Array Value→Prop}
  (hX:∀ (w w':World) (args:Array Value),w.heap=w'.heap→X w args→X w' args)
  (own:ownKnob C.prog.godebug=none) (started:os.Started) (noInit:C.prog.inits.idxOf? f=none) (hfn:C.prog.funcs[f]? =some fn)
  (witness:∃ (w:World) (tape:Tape) (i:Input),w.os=os∧(w.forCall tape i).Shaped C.prog∧i.vars=[]∧Input.okWide C.prog (w.forCall tape i) .any w.heap.size f i∧
    ((s.pre enc C.prog fn conds apart (w.forCall tape i).memory i.args∧X (w.forCall tape i).memory i.args)∧sizedMet enc C.prog fn (OpenSpec.ofChange s) apart (w.forCall tape i).memory i.args)∧a.holds C.prog (lone (Frame.enter C.prog f i.args .normal) [] (w.forCall tape i)))
  (contract:∀ (W:World) (base:Nat) (args:Array Value) (ds gs:List (DataW H)) (before:List MemPlace),
    (∀ (j:Nat) t v,fn.params[j]? =some t→args[j]? =some v→Value.okWide C.prog W .any base t v)→
    DataW.Whole enc C.prog fn.params.toList s.vars apart W args.toList ds gs before→
    (DataW.weightsEach C.prog (fn.params.toList ++ s.plain.varTypes C.prog) (ds ++ gs)).all (· ≤reachBytes)=true→X W args→W.ShapedOpen C.prog→
    Calls C.prog f args W fun e W'=>∃ v,e= .returned v∧s.post enc C.prog fn apart fresh handsOn again W args v W'):
  ReturnsInHanded a C os f .any (fun w args=>(s.pre enc C.prog fn conds apart w args∧X w args)∧sizedMet enc C.prog fn (OpenSpec.ofChange s) apart w args) (s.post enc C.prog fn apart fresh handsOn again):=by
 refine returnsInHanded_of_calls own started noInit witness ?_
 intro w tape i _ hsh _ hok hpre _
 obtain ⟨_,_,_,fn',hfn',_,_,_,_,hval⟩:=hok
 have e:fn'=fn:=Option.some.inj (hfn'.symm.trans hfn)
 subst e
 obtain ⟨⟨⟨ds,gs,before,hw,_⟩,hx⟩,hz⟩:=hpre
 have hw':=DataW.Whole.of_heap (w':=w.forCall tape i) (by rfl) hw
 refine (contract (w.forCall tape i) w.heap.size i.args ds gs before hval hw' (hz.weights hw) (hX _ _ _ (by rfl) hx) hsh).mono fun e W' ⟨v,he,hp⟩=>?_
 subst he
 exact ChangeSpec.post_blind hp
end
set_option maxRecDepth 100000
theorem pow_of {laid:List (String × DataW Unit)} {W:World} (hm:("internal/strconv.uint64pow10",Rows.laid_internal_strconv_uint64pow10)∈laid) (h:laidMet Tryz.prog laid W):Pow W:=by
 obtain ⟨g,t,cs,fuel,p,hg,ht,hv,hd⟩:=Go.Lib.laidMet.reads h (n:= "internal/strconv.uint64pow10") (d:=Rows.laid_internal_strconv_uint64pow10) hm
 have hg':Tryz.prog.globalNamed "internal/strconv.uint64pow10"=some 0:=by kernel_rfl
 obtain rfl:=Option.some.inj (hg'.symm.trans hg)
 have ht':(Tryz.prog.globals[0]?).map (·.type)=some 143:=by kernel_rfl
 obtain rfl:=Option.some.inj (ht'.symm.trans ht)
 have e:=Go.Lib.cells_of_tab (zs:=Lib.pow10Tab) Tryz.underlying143 Tryz.underlying85 (by kernel_rfl) (by kernel_rfl) hd
 unfold Pow Lib.TabIs
 rw [hv, ←e]
theorem star: "*" ++ "errors.errorString"= "*errors.errorString":=by decide
theorem row_es (u:TypeId) (h:Tryz.prog.typeName? 3 u=some "*errors.errorString"):u=162:=
 typeName_ptr_named (nm:= "errors.errorString") (by rw [star];kernel_rfl) (by kernel_rfl) (by decide) u (by rw [star];exact h)
theorem max_of {W:World} (h:W.ShapedOpen Tryz.prog):∃ m,W.cell? ⟨1,0,none⟩=some (.int .i64 m):=
 Go.Proofs.cell_of_shapedOpen_int (zero:= #[.int .i64 0]) (t:=3) h (by decide+kernel) (by kernel_rfl) rfl (by kernel_rfl) (by kernel_rfl) Tryz.underlying3
theorem sent_of {nm:String} {text:List UInt8} {g:Nat} {r:List (String × DataW Unit)} {W:World} (hg:Tryz.prog.globalNamed nm=some g) (ht:(Tryz.prog.globals[g]?).map (·.type)=some 55) (h:laidMet Tryz.prog ((nm,.iface "*errors.errorString" (.ptr (.agg [.lit (.string text)]))) :: r) W):
  ∃ ev,W.cell? ⟨g,0,none⟩=some ev∧(ev= .nilIface∨∃ te pe,ev= .iface te pe):=by
 obtain ⟨a0,s0,hv0, -, -, -⟩:=laid_sentinel h hg ht Tryz.underlying55 row_es Tryz.underlying162 Tryz.underlying164 rfl rfl Tryz.underlying9 (by kernel_rfl) (by kernel_rfl)
 exact ⟨_,by have h0:=World.var?_cell hg hv0 0;simpa using h0,.inr ⟨_,_,rfl⟩⟩
theorem txt_of {W:World} {laid:List (String × DataW Unit)} (hh:laid=Rows.weighTextsRow.laid) (hS:W.ShapedOpen Tryz.prog) (hL:laidMetH Tryz.prog laid W):Txt W:=by
 subst hh
 rw [MakeChecks.laidMetH_plain _ _ _ (by kernel_rfl)] at hL
 refine ⟨pow_of (by simp [Rows.weighTextsRow]) hL,max_of hS,?_,?_⟩
 ·exact sent_of (nm:= "strconv.ErrSyntax") (by kernel_rfl) (by kernel_rfl) hL.tail.tail.tail.tail.tail
 ·exact sent_of (nm:= "strconv.ErrRange") (by kernel_rfl) (by kernel_rfl) hL.tail.tail.tail.tail
end Go.Proofs.YtdlmdaononclgaaGreatDoor
namespace Go.Proofs.YtdlmdaononclgaaGreatDoor
open Go.ChangeShapes Go.WideShapes Go.ChangeAt Go.RowKit
set_option maxRecDepth 100000
theorem an {a b:Bool} (h:a=true) (k:b=true):(a && b)=true:=by rw [h,k];rfl
theorem jf_maps:mapsRowed Tryz.prog=true:=by kernel_rfl
theorem jf_stops:(Tryz.prog.stops == [])=true:=by kernel_rfl
theorem jf_knobs:(Tryz.prog.stopKnobs == [])=true:=by kernel_rfl
theorem jf_heard:Tryz.prog.stopsHeard=true:=by kernel_rfl
theorem jf_enter:Tryz.prog.mayEnter=true:=by kernel_rfl
end Go.Proofs.YtdlmdaononclgaaGreatDoor
