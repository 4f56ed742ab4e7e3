import Derived.Test.YtdlmdaononclgaaGreatDoorProg
import Derived.WalkKit
import Derived.WalkSpells
import Derived.WalkLawsBesides
import Derived.Handy
import Derived.Deep.QuietTactic
import Derived.BigQuiet
import Derived.Lib.Hide
import Derived.Shelf.Abstract
import Derived.Lib.ItoaLen
import Derived.Laws.BytesArg
import Derived.Laws.BytesString
import Derived.Laws.Concat
import Derived.Laws.IdiomStrings
import Derived.RangeFuncNested
import Derived.RangeFuncBound
import Derived.RangeFuncCalls
import Derived.RangeFuncLeaves
import Derived.Shelf.RegionOpen
import Derived.OwnWalkIn
import Derived.TacticsInMore
import Derived.LoopNIn
import Derived.LoopIn
import Derived.Laws.EntriesVeiled
import Derived.Sort.QuietIn
import Derived.BigRegion
import Derived.Maps.AppendAt
namespace Go.Proofs.YtdlmdaononclgaaGreatDoor
open Go.RowKit
set_option linter.unusedVariables false
set_option linter.unusedSimpArgs false
theorem ret_int {k:IntKind} {a b:Int} (h:a=b):Ending.returned (.int k a)= .returned (.int k b):=by rw [h]
theorem Qbf {a b:Bool} (h:a=b):Ending.returned (.bool a)= .returned (.bool b):=by rw [h]
def Qbt (n lo hi:Int):Bool:=decide (lo≤n∧n≤hi)
theorem within_true {n lo hi:Int} (h:Qbt n lo hi=true):lo≤n∧n≤hi:=of_decide_eq_true h
theorem within_false {n lo hi:Int} (h:Qbt n lo hi=false): ¬ (lo≤n∧n≤hi):=of_decide_eq_false h
theorem within_mk {n lo hi:Int} (h1:lo≤n) (h2:n≤hi):Qbt n lo hi=true:=decide_eq_true ⟨h1,h2⟩
theorem within_no {n lo hi:Int} (h: ¬ (lo≤n∧n≤hi)):Qbt n lo hi=false:=decide_eq_false h
theorem isWithin_any (n lo hi:Int) (w:World):
  Calls Tryz.prog 44 #[.int .i64 n,.int .i64 lo,.int .i64 hi] w fun e w'=>e= .returned (.bool (Qbt n lo hi))∧w=w':=by
 by_cases h1:lo≤n
 ·by_cases h2:n≤hi
  ·go_enter Tryz.func44,Tryz.ntmps44
   go_wp2
   go_ret
   exact ⟨Qbf (within_mk h1 h2).symm,rfl⟩
  ·go_enter Tryz.func44,Tryz.ntmps44
   go_wp2
   go_ret
   exact ⟨Qbf (within_no (by omega)).symm,rfl⟩
 ·go_enter Tryz.func44,Tryz.ntmps44
  go_wp2
  go_ret
  exact ⟨Qbf (within_no (by omega)).symm,rfl⟩
theorem Qaw {n lo hi:Int} {b:Bool} (h:Qbt n lo hi=b) (w:World):
  Calls Tryz.prog 44 #[.int .i64 n,.int .i64 lo,.int .i64 hi] w fun e w'=>e= .returned (.bool b)∧w=w':=by
 subst h;exact isWithin_any _ _ _ _
theorem size_any (n:Int) (h0: -9223372036854775808≤n) (h1:n≤9223372036854775807) (w:World):
  Calls Tryz.prog 49 #[.int .i64 n] w fun e w'=>e= .returned (.int .u64 (n.natAbs:Int))∧w=w':=by
 go_enter Tryz.func49,Tryz.ntmps49
 go_wp2
 ·go_ret
  have h:n < 0:=by assumption
  exact ⟨ret_int (by show IntKind.u64.wrap (-IntKind.u64.wrap n)=_;simp only [IntKind.wrap_u64];omega),rfl⟩
 ·go_ret
  have h:0≤n:=by assumption
  exact ⟨ret_int (by show n=_;omega),rfl⟩
theorem gcd_step (a b:Nat):Nat.gcd b (a % b)=Nat.gcd a b:=by rw [Nat.gcd_comm a b,Nat.gcd_rec b a,Nat.gcd_comm]
theorem divisor_any (a b:Nat) (w:World):
  Calls Tryz.prog 50 #[.int .u64 a,.int .u64 b] w fun e w'=>e= .returned (.int .u64 (Nat.gcd a b:Nat))∧∃ k,w'=w.drewN k:=by
 go_enter Tryz.func50,Tryz.ntmps50
 go_wp2
 go_loopw [0,1] (fun x y wr=>∃ a' b' k:Nat,x= .int .u64 a'∧y= .int .u64 b'∧Nat.gcd a' b'=Nat.gcd a b∧wr=w.drewN k) (fun _ y _=>(intOf y).toNat)
 case atStart=>exact ⟨a,b,0,rfl,rfl,rfl,rfl⟩
 case round=>
  obtain ⟨a',b',k,rfl,rfl,hg,rfl⟩:=hrel
  have H:=Lib.hid hg;clear hg
  by_cases hb:b'=0
  ·subst hb
   go_wp2
   go_ret
   exact ⟨ret_int (by rw [←H.out];simp),k,rfl⟩
  ·go_wp2
   go_quiet (fail)
   go_wp2
   go_roundw
   case rel=>exact ⟨b',a' % b',k+nq,rfl,by go_num,by rw [gcd_step,H.out],by rw [World.drewN_drewN]⟩
   case measure=>have:=Nat.mod_lt a' (show 0 < b' by omega);simp [intOf];omega
theorem tmod_gt (a b:Int) (hb:0 < b): -b < a.tmod b:=by
 rcases Int.le_total 0 a with h | h
 ·have:=Int.tmod_nonneg b h;omega
 ·have e:a.tmod b= -((-a).tmod b):=by rw [Int.neg_tmod];omega
  have:=Int.tmod_lt_of_pos (-a) hb
  omega
theorem floor_neg (a b:Int) (hb:0 < b) (h:a.tmod b < 0):a.tdiv b - 1=a / b:=by
 have e:=Int.mul_tdiv_add_tmod a b
 have g:=tmod_gt a b hb
 exact (((Int.ediv_emod_unique hb (a:=a) (q:=a.tdiv b - 1) (r:=a.tmod b+b)).2 ⟨by rw [Int.mul_sub];omega,by omega,by omega⟩).1).symm
theorem floor_pos (a b:Int) (hb:0 < b) (h:0≤a.tmod b):a.tdiv b=a / b:=by
 have e:=Int.mul_tdiv_add_tmod a b
 have g:=Int.tmod_lt_of_pos a hb
 exact (((Int.ediv_emod_unique hb (a:=a) (q:=a.tdiv b) (r:=a.tmod b)).2 ⟨by omega,h,g⟩).1).symm
theorem ediv_bd (a b:Int) (hb:0 < b) (h0: -9223372036854775807≤a) (h1:a≤9223372036854775807): -9223372036854775807≤a / b∧a / b≤9223372036854775807:=by
 constructor
 ·rw [Int.le_ediv_iff_mul_le hb]
  have: -9223372036854775807 * b≤ -9223372036854775807 * 1:=Int.mul_le_mul_of_nonpos_left (by omega) (by omega)
  omega
 ·rcases Int.le_total 0 a with h | h
  ·exact Int.le_trans (Int.ediv_le_self b h) h1
  ·have:a / b≤0:=Int.le_of_lt_add_one ((Int.ediv_lt_iff_lt_mul hb).2 (by omega))
   omega
theorem floor_any (a b:Int) (h0: -9223372036854775807≤a) (h1:a≤9223372036854775807) (hb:0 < b) (hb1:b≤9223372036854775807) (w:World):
  Calls Tryz.prog 53 #[.int .i64 a,.int .i64 b] w fun e w'=>e= .returned (.int .i64 (a / b))∧w=w':=by
 go_enter Tryz.func53,Tryz.ntmps53
 go_wp2
 ·go_ret
  exact ⟨ret_int (by show wrap64 (a.tdiv b - 1)=_;rw [floor_neg a b hb ‹_›];have:=ediv_bd a b hb h0 h1;exact IntWalk.wrap64_in _ ⟨by omega,by omega⟩),rfl⟩
 ·go_ret
  exact ⟨ret_int (floor_pos a b hb ‹_›),rfl⟩
def Qat (h k:Int):Int:=if k % h=0∧k / h≤3 then k / h else 0
theorem ratio_any (h k:Int) (h0:0 < h) (k0:0 < k) (h1:h≤9223372036854775807) (k1:k≤9223372036854775807) (w:World):
  Calls Tryz.prog 72 #[.int .i64 h,.int .i64 k] w fun e w'=>e= .returned (.int .i64 (Qat h k))∧w=w':=by
 go_enter Tryz.func72,Tryz.ntmps72
 go_wp2
 all_goals go_ret
 all_goals refine ⟨ret_int ?_,rfl⟩
 ·show k / h=Qat h k
  rw [Qat,if_pos ⟨‹_›,‹_›⟩]
 all_goals
  show 0=Qat h k
  rw [Qat,if_neg (by omega)]
theorem Qcb {h k r:Int} (hr:Qat h k=r) (h0:0 < h) (k0:0 < k) (h1:h≤9223372036854775807) (k1:k≤9223372036854775807) (w:World):
  Calls Tryz.prog 72 #[.int .i64 h,.int .i64 k] w fun e w'=>e= .returned (.int .i64 r)∧w=w':=by
 subst hr;exact ratio_any h k h0 k0 h1 k1 w
theorem mod_any (n m:Int) (h0: -9223372036854775808≤n) (h1:n≤9223372036854775807) (m0:0 < m) (m1:m≤4611686018427387904) (w:World):
  Calls Tryz.prog 22 #[.int .i64 n,.int .i64 m] w fun e w'=>e= .returned (.int .i64 (n % m))∧w=w':=by
 have e1:=Int.tmod_lt_of_pos n m0
 have e2:=tmod_gt n m m0
 have e3:n.tmod m+m=(n+m * (-(n.tdiv m))+m):=by rw [Int.mul_neg];have:=Int.mul_tdiv_add_tmod n m;omega
 go_enter Tryz.func22,Tryz.ntmps22
 go_wp2
 go_ret
 refine ⟨ret_int ?_,rfl⟩
 show (n+m * -n.tdiv m+m) % m=n % m
 rw [Int.add_emod_right,Int.add_mul_emod_self_left]
end Go.Proofs.YtdlmdaononclgaaGreatDoor
namespace Go.Proofs.YtdlmdaononclgaaGreatDoor
open Go.RowKit
set_option linter.unusedVariables false
set_option linter.unusedSimpArgs false
theorem Qac (w:World) (n:Nat):(w.drewN n).heap.size=w.heap.size:=rfl
theorem Qa {B B':Nat} {a b c:World} (h:Below B' b c) (h0:Below B a b) (hB:B≤B'):Below B a c:=h0.trans (h.mono hB)
theorem bcell {W w1:World} (hb:Below W.heap.size W w1):(∀ b o,b < W.heap.size→w1.cell? ⟨b,o,none⟩=W.cell? ⟨b,o,none⟩)∧(∀ b o,b < W.heap.size→w1.frozen? ⟨b,o,none⟩=W.frozen? ⟨b,o,none⟩):=
 ⟨fun b o h=>hb.cell (p:=⟨b,o,none⟩) h,fun b o h=>hb.frozen (p:=⟨b,o,none⟩) h⟩
theorem Qaa {B:Nat} {a w:World} (h:Below B a w) (n:Nat):Below B a (w.drewN n):=⟨h.os,h.tape,h.output,h.size,h.block⟩
theorem Qck {P:Program} {f:FuncId} {args:Array Value} {w:World} {n:Nat} {v:Value}
  (h:Calls P f args (w.drewN n) fun e w'=>e= .returned v∧w.drewN n=w'):Calls P f args (w.drewN n) fun e w''=>e= .returned v∧∃ m,w''=w.drewN m:=
 h.mono fun _ _ ⟨he,hm⟩=>⟨he,n,hm.symm⟩
def okF (n d:Int):Bool:=Qbt n (-1000000000) 1000000000 && Qbt d 1 1000000000 && (Nat.gcd n.natAbs d.natAbs == 1)
def mkR (n d:Int):Int × Int × Int:=
 if d=0 then (0,0,11)
 else
  let g:=Nat.gcd n.natAbs d.natAbs
  let a:=n.natAbs / g
  let b:=d.natAbs / g
  if 1000000000 < a∨1000000000 < b then (0,0,4)
  else (if (decide (n < 0) != decide (d < 0))=true then -(a:Int) else (a:Int),(b:Int),0)
theorem mkR_big {n d:Int} {q1 q2:Nat} (hd: ¬ d=0) (h1:n.natAbs / Nat.gcd n.natAbs d.natAbs=q1) (h2:d.natAbs / Nat.gcd n.natAbs d.natAbs=q2) (h:(1000000000:Int) < q1∨(1000000000:Int) < q2):mkR n d=(0,0,4):=by
 subst h1;subst h2
 simp only [mkR,if_neg hd]
 rw [if_pos (by omega)]
theorem mkR_neg {n d:Int} {q1 q2:Nat} (hd: ¬ d=0) (h1:n.natAbs / Nat.gcd n.natAbs d.natAbs=q1) (h2:d.natAbs / Nat.gcd n.natAbs d.natAbs=q2) (h: ¬ ((1000000000:Int) < q1∨(1000000000:Int) < q2)) (hs:(decide (n < 0) != decide (d < 0))=true):mkR n d=(-(q1:Int),(q2:Int),0):=by
 subst h1;subst h2
 simp only [mkR,if_neg hd]
 rw [if_neg (by omega),if_pos hs]
theorem mkR_pos {n d:Int} {q1 q2:Nat} (hd: ¬ d=0) (h1:n.natAbs / Nat.gcd n.natAbs d.natAbs=q1) (h2:d.natAbs / Nat.gcd n.natAbs d.natAbs=q2) (h: ¬ ((1000000000:Int) < q1∨(1000000000:Int) < q2)) (hs:(decide (n < 0) != decide (d < 0))=false):mkR n d=((q1:Int),(q2:Int),0):=by
 subst h1;subst h2
 simp only [mkR,if_neg hd]
 rw [if_neg (by omega),hs];rfl
set_option maxHeartbeats 1000000 in
theorem make_any (n d:Int) (n0: -9223372036854775808≤n) (n1:n≤9223372036854775807) (d0: -9223372036854775808≤d) (d1:d≤9223372036854775807) (w:World):
  Calls Tryz.prog 29 #[.int .i64 n,.int .i64 d] w fun e w'=>
   e= .returned (.tuple #[.agg #[.int .i64 (mkR n d).1,.int .i64 (mkR n d).2.1],.int .i64 (mkR n d).2.2])∧Below w.heap.size w w':=by
 by_cases hd:d=0
 ·subst hd
  go_enter Tryz.func29,Tryz.ntmps29
  go_wp2
  go_returns
  refine ⟨rfl,?_⟩
  repeat' (first | (with_reducible exact Below.refl _ _) | (with_reducible assumption) | (refine Qa (by assumption) ?_ ?_) | (with_reducible refine Qaa ?_ _) | (with_reducible refine Below.drew ?_) | (with_reducible refine Below.alloc ?_ ?_ _) | (with_reducible refine Below.setCell ?_ ?_ _) | go_size)
 ·have hg:0 < Nat.gcd n.natAbs d.natAbs:=Nat.gcd_pos_of_pos_right _ (by omega)
  obtain ⟨q1,hq1⟩:∃ q,n.natAbs / Nat.gcd n.natAbs d.natAbs=q:=⟨_,rfl⟩
  obtain ⟨q2,hq2⟩:∃ q,d.natAbs / Nat.gcd n.natAbs d.natAbs=q:=⟨_,rfl⟩
  have b1:q1≤n.natAbs:=by rw [←hq1];exact Nat.div_le_self _ _
  have b2:q2≤d.natAbs:=by rw [←hq2];exact Nat.div_le_self _ _
  have e1:IntKind.u64.wrap ((n.natAbs:Int) / (Nat.gcd n.natAbs d.natAbs:Nat))=q1:=by rw [←Int.natCast_ediv,hq1];exact IntWalk.u64_in _ ⟨by omega,by omega⟩
  have e2:IntKind.u64.wrap ((d.natAbs:Int) / (Nat.gcd n.natAbs d.natAbs:Nat))=q2:=by rw [←Int.natCast_ediv,hq2];exact IntWalk.u64_in _ ⟨by omega,by omega⟩
  have c1:(q1:Int)≤9223372036854775808:=by omega
  have c2:(q2:Int)≤9223372036854775808:=by omega
  have H1:=Lib.hid hq1;clear hq1
  have H2:=Lib.hid hq2;clear hq2
  clear b1 b2
  go_enter Tryz.func29,Tryz.ntmps29
  go_wp2_with (first | (go_at_call 49;refine (size_any _ (by omega) (by omega) _).mono ?_;rintro e w' ⟨rfl,rfl⟩) | (go_at_call 50;refine (divisor_any _ _ _).mono ?_;rintro e w' ⟨rfl,k,rfl⟩))
  go_quiet (fail)
  go_wp2
  all_goals (
   have h1:=H1.out
   have h2:=H2.out)
  all_goals go_returns
  all_goals first
   | (rw [mkR_big hd h1 h2 (by omega)];refine ⟨rfl,?_⟩;(repeat' (first | (with_reducible exact Below.refl _ _) | (with_reducible assumption) | (refine Qa (by assumption) ?_ ?_) | (with_reducible refine Qaa ?_ _) | (with_reducible refine Below.drew ?_) | (with_reducible refine Below.alloc ?_ ?_ _) | (with_reducible refine Below.setCell ?_ ?_ _) | go_size));done)
   | (rw [mkR_neg hd h1 h2 (by omega) ‹_›];refine ⟨rfl,?_⟩;(repeat' (first | (with_reducible exact Below.refl _ _) | (with_reducible assumption) | (refine Qa (by assumption) ?_ ?_) | (with_reducible refine Qaa ?_ _) | (with_reducible refine Below.drew ?_) | (with_reducible refine Below.alloc ?_ ?_ _) | (with_reducible refine Below.setCell ?_ ?_ _) | go_size));done)
   | (rw [mkR_pos hd h1 h2 (by omega) ‹_›];refine ⟨rfl,?_⟩;(repeat' (first | (with_reducible exact Below.refl _ _) | (with_reducible assumption) | (refine Qa (by assumption) ?_ ?_) | (with_reducible refine Qaa ?_ _) | (with_reducible refine Below.drew ?_) | (with_reducible refine Below.alloc ?_ ?_ _) | (with_reducible refine Below.setCell ?_ ?_ _) | go_size));done)
set_option maxHeartbeats 1000000 in
theorem isFrac_any (n d:Int) (n0: -9223372036854775808≤n) (n1:n≤9223372036854775807) (d0: -9223372036854775808≤d) (d1:d≤9223372036854775807) (w:World):
   Calls Tryz.prog 69 #[.agg #[.int .i64 n,.int .i64 d]] w fun e w'=>e= .returned (.bool (okF n d))∧Below w.heap.size w w':=by
 cases h1:Qbt n (-1000000000) 1000000000 with
 | false=>
   go_enter Tryz.func69,Tryz.ntmps69
   go_wp2
   go_quiet ((go_at_call 44;with_reducible exact Qck (Qaw h1 _)))
   go_wp2
   go_ret
   exact ⟨Qbf (by simp [okF,h1]),by repeat' (first | (with_reducible exact Below.refl _ _) | (with_reducible assumption) | (refine Qa (by assumption) ?_ ?_) | (with_reducible refine Qaa ?_ _) | (with_reducible refine Below.drew ?_) | (with_reducible refine Below.alloc ?_ ?_ _) | (with_reducible refine Below.setCell ?_ ?_ _) | go_size)⟩
 | true=>
   cases h2:Qbt d 1 1000000000 with
   | false=>
     go_enter Tryz.func69,Tryz.ntmps69
     go_wp2
     go_quiet ((go_at_call 44;first | with_reducible exact Qck (Qaw h1 _) | with_reducible exact Qck (Qaw h2 _)))
     go_wp2
     go_ret
     exact ⟨Qbf (by simp [okF,h2]),by repeat' (first | (with_reducible exact Below.refl _ _) | (with_reducible assumption) | (refine Qa (by assumption) ?_ ?_) | (with_reducible refine Qaa ?_ _) | (with_reducible refine Below.drew ?_) | (with_reducible refine Below.alloc ?_ ?_ _) | (with_reducible refine Below.setCell ?_ ?_ _) | go_size)⟩
   | true=>
     go_enter Tryz.func69,Tryz.ntmps69
     go_wp2
     go_quiet ((first | (go_at_call 44;first | with_reducible exact Qck (Qaw h1 _) | with_reducible exact Qck (Qaw h2 _)) | (go_at_call 49;exact Qck (size_any _ (by omega) (by omega) _)) | (go_at_call 50;exact Calls.quiet_of (divisor_any _ _ _))))
     go_wp2
     go_ret
     exact ⟨Qbf (by simp only [okF,h1,h2];exact Bool.eq_iff_iff.2 (by simp;omega)),by repeat' (first | (with_reducible exact Below.refl _ _) | (with_reducible assumption) | (refine Qa (by assumption) ?_ ?_) | (with_reducible refine Qaa ?_ _) | (with_reducible refine Below.drew ?_) | (with_reducible refine Below.alloc ?_ ?_ _) | (with_reducible refine Below.setCell ?_ ?_ _) | go_size)⟩
end Go.Proofs.YtdlmdaononclgaaGreatDoor
namespace Go.Proofs.YtdlmdaononclgaaGreatDoor
open Go.RowKit
set_option linter.unusedVariables false
set_option linter.unusedSimpArgs false
def RD (w:World) (B:Nat) (A:Option Addr) (cs:List Value):Prop:=
 cs=[]∨∃ b off,A=some ⟨b,off,none⟩∧b < B∧∀ j v,cs[j]? =some v→w.cell? ⟨b,off+j,none⟩=some v
theorem RD.keep {w w':World} {B B':Nat} {A:Option Addr} {cs:List Value} (h:RD w B A cs) (hb:Below B' w w') (hB:B≤B'):RD w' B A cs:=by
 rcases h with h | ⟨b,off,rfl,hlt,hc⟩
 ·exact .inl h
 ·exact .inr ⟨b,off,rfl,hlt,fun j v hv=>(hb.cell (p:=⟨b,off+j,none⟩) (by show b < B';omega)).trans (hc j v hv)⟩
theorem RD.more {w:World} {B B':Nat} {A:Option Addr} {cs:List Value} (h:RD w B A cs) (hB:B≤B'):RD w B' A cs:=by
 rcases h with h | ⟨b,off,rfl,hlt,hc⟩
 ·exact .inl h
 ·exact .inr ⟨b,off,rfl,by omega,hc⟩
theorem RD.nil (w:World) (B:Nat) (A:Option Addr):RD w B A []:=.inl rfl
def ints (xs:List Int):List Value:=xs.map (Value.int .i64)
theorem Qdf (xs:List Int):(ints xs).length=xs.length:=List.length_map _
theorem ints_get (xs:List Int) (j:Nat):(ints xs)[j]? =xs[j]?.map (Value.int .i64):=List.getElem?_map
def ix (xs:List Int) (k:Nat):Int:=xs.getD k 0
theorem RD.ints {w:World} {B:Nat} {A:Option Addr} {xs:List Int} (h:RD w B A (ints xs)) (hp:0 < xs.length):
  ∃ b off,A=some ⟨b,off,none⟩∧b < B∧∀ j,j < xs.length→w.cell? ⟨b,off+j,none⟩=some (.int .i64 (ix xs j)):=by
 rcases h with h | ⟨b,off,rfl,hlt,hc⟩
 ·have:=congrArg List.length h;rw [Qdf] at this;simp only [List.length_nil] at this;omega
 ·refine ⟨b,off,rfl,hlt,fun j hj=>hc j _ ?_⟩
  rw [ints_get,List.getElem?_eq_getElem hj]
  simp [ix,List.getD,List.getElem?_eq_getElem hj]
def okP (many most:Int) (xs:List Int):Bool:=
 decide (2≤xs.length∧(xs.length:Int)≤many∧0≤ix xs 0∧ix xs (xs.length - 1)≤most∧∀ k,k < xs.length - 1→ix xs k < ix xs (k+1))
structure OkP (many most:Int) (xs:List Int):Prop where
 two:2≤xs.length
 many:(xs.length:Int)≤many
 low:0≤ix xs 0
 high:ix xs (xs.length - 1)≤most
 inc:∀ k,k < xs.length - 1→ix xs k < ix xs (k+1)
theorem okP_true {many most:Int} {xs:List Int} (h:okP many most xs=true):OkP many most xs:=
 let ⟨a,b,c,d,e⟩:=of_decide_eq_true h;⟨a,b,c,d,e⟩
theorem okP_mk {many most:Int} {xs:List Int} (h:OkP many most xs):okP many most xs=true:=decide_eq_true ⟨h.two,h.many,h.low,h.high,h.inc⟩
theorem okP_no {many most:Int} {xs:List Int} (h: ¬ OkP many most xs):okP many most xs=false:=by
 cases e:okP many most xs with
 | false=>rfl
 | true=>exact absurd (okP_true e) h
set_option maxHeartbeats 1000000 in
theorem arePlaces_any (xs:List Int) (A:Option Addr) (c:Nat) (many most:Int) (w:World) (hc:xs.length≤c) (hm:c≤9223372036854775807) {B:Nat} (h:RD w B A (ints xs)):
   Calls Tryz.prog 63 #[.slice A xs.length c,.int .i64 many,.int .i64 most] w fun e w'=>e= .returned (.bool (okP many most xs))∧w=w':=by
 cases h1:Qbt (xs.length:Int) 2 many with
 | false=>
   have hn:=within_false h1
   rw [okP_no (fun k=>hn ⟨by have:=k.two;omega,k.many⟩)]
   go_enter Tryz.func63,Tryz.ntmps63
   go_wp2_with (go_at_call 44;(with_reducible refine (Qaw h1 _).mono ?_);rintro e w' ⟨rfl,rfl⟩)
   go_ret
   exact ⟨rfl,rfl⟩
 | true=>
   obtain ⟨n2,nm⟩:=within_true h1
   obtain ⟨b,off,rfl,hb,hcell⟩:=h.ints (by omega)
   have x0:=hcell 0 (by omega)
   have xl:=hcell (xs.length - 1) (by omega)
   have HC:=Lib.hid hcell;clear hcell
   clear h hb
   rw [Nat.add_zero] at x0
   go_enter Tryz.func63,Tryz.ntmps63
   go_wp2_with (go_at_call 44;(with_reducible refine (Qaw h1 _).mono ?_);rintro e w' ⟨rfl,rfl⟩)
   all_goals first
    | (go_ret
       rw [okP_no (fun k=>by have:=k.low;have:=k.high;omega)]
       exact ⟨rfl,rfl⟩)
    | skip
   go_loop [33] (fun x=>∃ k:Nat,k≤xs.length - 1∧x= .int .i64 k∧∀ j:Nat,j < k→ix xs j < ix xs (j+1)) (fun x=>xs.length - (intOf x).toNat)
   case atStart=>exact ⟨0,by omega,rfl,fun j hj=>by omega⟩
   case round=>
    obtain ⟨k,hk,rfl,hlt⟩:=hrel
    have HL:=Lib.hid hlt;clear hlt
    by_cases hk':k < xs.length - 1
    · have y0:=HC.out k (by omega)
      have y1:=HC.out (k+1) (by omega)
      rw [show off+(k+1)=off+1+k by omega] at y1
      go_wp2
      · go_ret
        rw [okP_no (fun q=>by have:=q.inc k (by omega);omega)]
        exact ⟨rfl,rfl⟩
      · go_round
        case rel=>exact ⟨k+1,by omega,by go_num,fun j hj=>by rcases (by omega:j < k∨j=k) with h | rfl;exact HL.out j h;assumption⟩
        case measure=>simp [intOf];omega
    · go_wp2
      go_ret
      rw [okP_mk ⟨by omega,by omega,by omega,by omega,fun j hj=>HL.out j (by omega)⟩]
      exact ⟨rfl,rfl⟩
end Go.Proofs.YtdlmdaononclgaaGreatDoor
namespace Go.Proofs.YtdlmdaononclgaaGreatDoor
open Go.RowKit
set_option linter.unusedVariables false
set_option linter.unusedSimpArgs false
theorem OkP.lo {many most:Int} {xs:List Int} (h:OkP many most xs):∀ j,j < xs.length→0≤ix xs j:=by
 intro j
 induction j with
 | zero=>intro _;exact h.low
 | succ j ih=>intro hj;have:=ih (by omega);have:=h.inc j (by omega);omega
theorem OkP.hi {many most:Int} {xs:List Int} (h:OkP many most xs):∀ i,i < xs.length→ix xs (xs.length - 1 - i)≤most:=by
 intro i
 induction i with
 | zero=>intro _;exact h.high
 | succ i ih=>
   intro hi
   have a:=ih (by omega)
   have b:=h.inc (xs.length - 1 - (i+1)) (by omega)
   rw [show xs.length - 1 - (i+1)+1=xs.length - 1 - i by omega] at b
   omega
theorem OkP.hi' {many most:Int} {xs:List Int} (h:OkP many most xs) (j:Nat) (hj:j < xs.length):ix xs j≤most:=by
 have:=h.hi (xs.length - 1 - j) (by omega)
 rwa [show xs.length - 1 - (xs.length - 1 - j)=j by omega] at this
set_option maxHeartbeats 2000000 in
theorem rising_any (xs:List Int) (A:Option Addr) (c:Nat) (many most:Int) (w:World) (hc:xs.length≤c) (hm:c≤9223372036854775807) {B:Nat} (h:RD w B A (ints xs)):
  Calls Tryz.prog 66 #[.slice A xs.length c,.int .i64 many,.int .i64 most] w fun e w'=>e= .returned (.bool (okP many most xs))∧∃ k,w'=w.drewN k:=by
 by_cases n2:2≤xs.length
 ·obtain ⟨b,off,rfl,hb,hcell⟩:=h.ints (by omega)
  have HC:=Lib.hid hcell;clear hcell
  clear h hb
  go_enter Tryz.func66,Tryz.ntmps66
  go_wp2
  ·go_ret
   rw [okP_no (fun k=>by have:=k.two;have:=k.many;omega)]
   exact ⟨rfl,0,rfl⟩
  ·have nm:(xs.length:Int)≤many:=by omega
   go_loopw [7] (fun x wr=>∃ k q:Nat,k≤xs.length∧x= .int .i64 k∧wr=w.drewN q∧(∀ j:Nat,j < k→0≤ix xs j∧ix xs j≤most)∧∀ j:Nat,j+1 < k→ix xs j < ix xs (j+1)) (fun x _=>xs.length - (intOf x).toNat)
   case atStart=>exact ⟨0,0,by omega,rfl,rfl,fun j hj=>by omega,fun j hj=>by omega⟩
   case round=>
    obtain ⟨k,q,hk,rfl,rfl,hr,hi⟩:=hrel
    have HR:=Lib.hid hr;clear hr
    have HI:=Lib.hid hi;clear hi
    by_cases hk':k < xs.length
    ·have y0:=HC.out k hk'
     by_cases c0:ix xs k < 0
     ·have d0:decide (ix xs k < 0)=true:=decide_eq_true c0
      go_wp2
      go_quiet (fail)
      go_wp2
      go_ret
      rw [okP_no (fun p=>by have:=p.lo k hk';omega)]
      exact ⟨rfl,q+nq,by first | rfl | rw [World.drewN_drewN]⟩
     have d0:decide (ix xs k < 0)=false:=decide_eq_false c0
     by_cases c1:most < ix xs k
     ·have d1:decide (most < ix xs k)=true:=decide_eq_true c1
      go_wp2
      go_quiet (fail)
      go_wp2
      go_ret
      rw [okP_no (fun p=>by have:=p.hi' k hk';omega)]
      exact ⟨rfl,q+nq,by first | rfl | rw [World.drewN_drewN]⟩
     have d1:decide (most < ix xs k)=false:=decide_eq_false c1
     by_cases c2:k=0
     ·have d2:decide (0 < (k:Int))=false:=decide_eq_false (by omega)
      have d5:decide (0 < k)=false:=decide_eq_false (by omega)
      have C2:=Lib.hid c2;clear c2
      go_wp2
      go_quiet (fail)
      go_wp2
      go_roundw
      case rel=>have c2:=C2.out;exact ⟨k+1,q+nq,by omega,by go_num,by first | rfl | rw [World.drewN_drewN],fun j hj=>(by have e:j=k:=(by omega);rw [e];omega),fun j hj=>by omega⟩
      case measure=>simp [intOf];omega
     ·obtain ⟨m,rfl⟩:∃ m,k=m+1:=⟨k - 1,by omega⟩
      have d2:decide (0 < ((m+1:Nat):Int))=true:=decide_eq_true (by omega)
      have d3:decide (0 < (m:Int)+1)=true:=decide_eq_true (by omega)
      have d5:decide (0 < m+1)=true:=decide_eq_true (by omega)
      have y1:=HC.out m (by omega)
      by_cases c3:ix xs (m+1)≤ix xs m
      ·have d4:decide (ix xs (m+1)≤ix xs m)=true:=decide_eq_true c3
       go_wp2
       go_quiet (fail)
       go_wp2
       go_ret
       rw [okP_no (fun p=>by have:=p.inc m (by omega);omega)]
       exact ⟨rfl,q+nq,by first | rfl | rw [World.drewN_drewN]⟩
      ·have d4:decide (ix xs (m+1)≤ix xs m)=false:=decide_eq_false c3
       go_wp2
       go_quiet (fail)
       go_wp2
       go_roundw
       case rel=>exact ⟨m+1+1,q+nq,by omega,by go_num,by first | rfl | rw [World.drewN_drewN],fun j hj=>(by rcases (by omega:j < m+1∨j=m+1) with h | rfl;exact HR.out j h;omega),fun j hj=>(by rcases (by omega:j+1 < m+1∨j=m) with h | rfl;exact HI.out j h;omega)⟩
       case measure=>simp [intOf];omega
    ·go_wp2
     go_ret
     rw [okP_mk ⟨by omega,by omega,(HR.out 0 (by omega)).1,(HR.out (xs.length - 1) (by omega)).2,fun j hj=>HI.out j (by omega)⟩]
     exact ⟨rfl,q,rfl⟩
 ·rw [okP_no (fun k=>by have:=k.two;omega)]
  go_enter Tryz.func66,Tryz.ntmps66
  go_wp2
  go_ret
  exact ⟨rfl,0,rfl⟩
end Go.Proofs.YtdlmdaononclgaaGreatDoor
namespace Go.Proofs.YtdlmdaononclgaaGreatDoor
open Go.RowKit
set_option linter.unusedVariables false
set_option linter.unusedSimpArgs false
theorem Qcf {xs:List Int} {many most:Int} {r:Bool} (hr:okP many most xs=r) (A:Option Addr) (c:Nat) (w:World) (hc:xs.length≤c) (hm:c≤9223372036854775807) {B:Nat} (h:RD w B A (ints xs)):
  Calls Tryz.prog 63 #[.slice A xs.length c,.int .i64 many,.int .i64 most] w fun e w'=>e= .returned (.bool r)∧w=w':=by
 subst hr;exact arePlaces_any xs A c many most w hc hm h
theorem rising_is {xs:List Int} {many most:Int} {r:Bool} (hr:okP many most xs=r) (A:Option Addr) (c:Nat) (w:World) (hc:xs.length≤c) (hm:c≤9223372036854775807) {B:Nat} (h:RD w B A (ints xs)):
  Calls Tryz.prog 66 #[.slice A xs.length c,.int .i64 many,.int .i64 most] w fun e w'=>e= .returned (.bool r)∧∃ k,w'=w.drewN k:=by
 subst hr;exact rising_any xs A c many most w hc hm h
theorem Qbu {xs:List Int} (hr:okP 9 100000 xs=true) (A:Option Addr) (c:Nat) (w:World) (hc:xs.length≤c) (hm:c≤9223372036854775807) {B:Nat} (h:RD w B A (ints xs)):
  Calls Tryz.prog 54 #[.slice A xs.length c] w fun e w'=>e= .returned (.int .i64 0)∧w=w':=by
 go_enter Tryz.func54,Tryz.ntmps54
 go_wp2_with (go_at_call 63;(with_reducible refine (Qcf hr A c _ hc hm h).mono ?_);rintro e w' ⟨rfl,rfl⟩)
 go_ret
 exact ⟨rfl,rfl⟩
theorem CheckPlaces_no {xs:List Int} (hr:okP 9 100000 xs=false) (A:Option Addr) (c:Nat) (w:World) (hc:xs.length≤c) (hm:c≤9223372036854775807) {B:Nat} (h:RD w B A (ints xs)):
  Calls Tryz.prog 54 #[.slice A xs.length c] w fun e w'=>e= .returned (.int .i64 12)∧w=w':=by
 go_enter Tryz.func54,Tryz.ntmps54
 go_wp2_with (go_at_call 63;(with_reducible refine (Qcf hr A c _ hc hm h).mono ?_);rintro e w' ⟨rfl,rfl⟩)
 go_ret
 exact ⟨rfl,rfl⟩
def Pred (g:Nat) (p:Int→Bool):Prop:=∀ (x:Int) (W:World),Calls Tryz.prog g #[.int .i64 x] W fun e w'=>e= .returned (.bool (p x))∧W=w'
theorem Pred.at {g:Nat} {p:Int→Bool} (h:Pred g p) {x:Int} {b:Bool} (hq:p x=b) (W:World):Calls Tryz.prog g #[.int .i64 x] W fun e w'=>e= .returned (.bool b)∧W=w':=by
 subst hq;exact h x W
def anyB (p:Int→Bool) (xs:List Int):Bool:=xs.any p
theorem anyB_no {p:Int→Bool} {xs:List Int} (h:∀ j,j < xs.length→p (ix xs j)=false):anyB p xs=false:=by
 rw [anyB,List.any_eq_false]
 intro x hx
 obtain ⟨j,hj,rfl⟩:=List.getElem_of_mem hx
 have:=h j hj
 simp only [ix,List.getD,List.getElem?_eq_getElem hj,Option.getD_some] at this
 simp [this]
theorem anyB_yes {p:Int→Bool} {xs:List Int} (j:Nat) (hj:j < xs.length) (h:p (ix xs j)=true):anyB p xs=true:=by
 rw [anyB,List.any_eq_true]
 refine ⟨xs[j],List.getElem_mem hj,?_⟩
 simpa only [ix,List.getD,List.getElem?_eq_getElem hj,Option.getD_some] using h
def IdxPost (p:Int→Bool) (xs:List Int) (w:World) (e:Ending) (w':World):Prop:=
 ∃ i:Int,e= .returned (.int .i64 i)∧w=w'∧decide (0≤i)=anyB p xs
set_option maxHeartbeats 1000000 in
theorem IndexFunc_any (g:Nat) (eg:∀ args w,(callFunc g args).run Tryz.prog w= .ok (.enter g args) w) (p:Int→Bool) (hp:Pred g p) (xs:List Int) (A:Option Addr) (c:Nat) (w:World) (hc:xs.length≤c) (hm:c≤9223372036854775807) {B:Nat} (h:RD w B A (ints xs)):
  Calls Tryz.prog 65 #[.slice A xs.length c,.func (.func g) #[] #[]] w (IdxPost p xs w):=by
 have HP:=Lib.hid hp;clear hp
 have HR:=Lib.hid h;clear h
 go_enter Tryz.func65,Tryz.ntmps65
 go_wp2
 go_loop [8] (fun x=>∃ k:Nat,k≤xs.length∧x= .int .i64 k∧∀ j:Nat,j < k→p (ix xs j)=false) (fun x=>xs.length - (intOf x).toNat)
 case atStart=>exact ⟨0,by omega,rfl,fun j hj=>by omega⟩
 case round=>
  obtain ⟨k,hk,rfl,hlt⟩:=hrel
  have HL:=Lib.hid hlt;clear hlt
  by_cases hk':k < xs.length
  ·obtain ⟨b,off,rfl,hb,hcell⟩:=HR.out.ints (by omega)
   have y0:=hcell k (by omega)
   clear hcell
   cases hq:p (ix xs k) with
   | true=>
     have HQ:=Lib.hid hq
     go_wp2_with (go_at_fn g;(with_reducible refine (Pred.at HP.out HQ.out _).mono ?_);rintro e w' ⟨rfl,rfl⟩)
     go_ret
     exact ⟨k,rfl,rfl,by rw [anyB_yes k hk' HQ.out];exact decide_eq_true (by omega)⟩
   | false=>
     have HQ:=Lib.hid hq
     go_wp2_with (go_at_fn g;(with_reducible refine (Pred.at HP.out HQ.out _).mono ?_);rintro e w' ⟨rfl,rfl⟩)
     go_round
     case rel=>exact ⟨k+1,by omega,by go_num,fun j hj=>(by rcases (by omega:j < k∨j=k) with h | rfl;exact HL.out j h;exact HQ.out)⟩
     case measure=>simp [intOf];omega
  ·go_wp2
   go_ret
   exact ⟨-1,rfl,rfl,by rw [anyB_no (fun j hj=>HL.out j (by omega))];rfl⟩
theorem Qcn (g:Nat) (eg:∀ args w,(callFunc g args).run Tryz.prog w= .ok (.enter g args) w) {p:Int→Bool} (hp:Pred g p) {xs:List Int} {r:Bool} (hr:anyB p xs=r) (A:Option Addr) (c:Nat) (w:World) (hc:xs.length≤c) (hm:c≤9223372036854775807) {B:Nat} (h:RD w B A (ints xs)):
  Calls Tryz.prog 42 #[.slice A xs.length c,.func (.func g) #[] #[]] w fun e w'=>e= .returned (.bool r)∧w=w':=by
 have H:=Lib.hid (IndexFunc_any g eg p hp xs A c w hc hm h)
 have HR:=Lib.hid hr;clear hr hp h
 go_enter Tryz.func42,Tryz.ntmps42
 go_wp2_with (go_at_call 65;(with_reducible refine H.out.mono ?_);rintro e w' ⟨i,rfl,rfl,hi⟩;have HI:=Lib.hid hi;clear hi)
 go_ret
 exact ⟨Qbf (HI.out.trans HR.out),rfl⟩
end Go.Proofs.YtdlmdaononclgaaGreatDoor
namespace Go.Proofs.YtdlmdaononclgaaGreatDoor
open Go.RowKit
set_option linter.unusedVariables false
set_option linter.unusedSimpArgs false
theorem str_add (w:World) (x y:List UInt8) (t:TypeId) (hx:x.length≤1000000000000) (hy:y.length≤1000000000000):(binOp .add t (.string ⟨x.toArray⟩) (.string ⟨y.toArray⟩)).run Tryz.prog w= .ok (.string ⟨(x ++ y).toArray⟩) w:=by
 rw [binOp_string_add,run_string_add_sum w _ _ (by simp [ByteArray.size];omega),ByteArray.mk_append_mk]
def numT (n:Int):List UInt8:=32 :: Lib.itoa n
def rowT (word:List UInt8) (l:List Int):List UInt8:=word ++ l.flatMap numT ++ [10]
def In64 (l:List Int):Prop:=∀ k,k < l.length→ -9223372036854775808≤ix l k∧ix l k≤9223372036854775807
theorem numT_len (n:Int) (h0: -9223372036854775808≤n) (h1:n≤9223372036854775807):(numT n).length≤22:=by
 have:=Lib.itoa_length_le n h0 h1
 simp [numT];omega
theorem take_num (l:List Int) (k:Nat) (hk:k < l.length):(l.take (k+1)).flatMap numT=(l.take k).flatMap numT ++ numT (ix l k):=by
 have e:l.take (k+1)=l.take k ++ [ix l k]:=by
  rw [List.take_add_one,List.getElem?_eq_getElem hk]
  simp [ix,List.getD,List.getElem?_eq_getElem hk]
 rw [e,List.flatMap_append]
 simp
theorem take_num_len (l:List Int) (h:In64 l) (k:Nat) (hk:k≤l.length):((l.take k).flatMap numT).length≤22 * k:=by
 induction k with
 | zero=>simp
 | succ k ih=>
   have:=ih (by omega)
   have h2:=numT_len _ (h k (by omega)).1 (h k (by omega)).2
   rw [take_num l k (by omega),List.length_append]
   omega
end Go.Proofs.YtdlmdaononclgaaGreatDoor
namespace Go.Proofs.YtdlmdaononclgaaGreatDoor
open Go.RowKit
set_option linter.unusedVariables false
set_option linter.unusedSimpArgs false
theorem Qah {n:Nat} (h:Fence.wide.depth.isSome=true):1≤n:=by simp [Fence.wide] at h
structure Keep (D:Nat) (Y:Nat→Prop) (W W':World):Prop where
 os:W'.os=W.os
 tape:W'.tape=W.tape
 output:W'.output=W.output
 size:W.heap.size≤W'.heap.size
 block:∀ k,k < W.heap.size→(k < D∨Y k)→W'.heap[k]? =W.heap[k]?
theorem Keep.refl (D:Nat) (Y:Nat→Prop) (W:World):Keep D Y W W:=⟨rfl,rfl,rfl,Nat.le_refl _,fun _ _ _=>rfl⟩
theorem Keep.trans {D:Nat} {Y:Nat→Prop} {A B C:World} (h:Keep D Y A B) (k:Keep D Y B C):Keep D Y A C:=
 ⟨k.os.trans h.os,k.tape.trans h.tape,k.output.trans h.output,Nat.le_trans h.size k.size,fun i hi hy=>(k.block i (Nat.lt_of_lt_of_le hi h.size) hy).trans (h.block i hi hy)⟩
theorem Keep.of_below {D:Nat} {Y:Nat→Prop} {W W':World} (h:Below W.heap.size W W'):Keep D Y W W':=⟨h.os,h.tape,h.output,h.size,fun k hk _=>h.block k hk⟩
theorem Keep.alloc {D:Nat} {Y:Nat→Prop} {A W:World} (h:Keep D Y A W) (o:Obj):Keep D Y A (W.alloc o):=h.trans (Keep.of_below ((Below.refl _ W).alloc (Nat.le_refl _) o))
theorem Keep.drewN {D:Nat} {Y:Nat→Prop} {A W:World} (h:Keep D Y A W) (n:Nat):Keep D Y A (W.drewN n):=⟨h.os,h.tape,h.output,h.size,h.block⟩
theorem Keep.setCell {D:Nat} {Y:Nat→Prop} {A W:World} (h:Keep D Y A W) {p:Addr} (hD:D≤p.block) (hY: ¬ Y p.block) (v:Value):Keep D Y A (W.setCell p v):=
 h.trans ⟨rfl,rfl,rfl,by simp [World.setCell],fun k hk hy=>Below.heap_setCell _ _ _ _ (fun e=>by subst e;rcases hy with hy | hy;omega;exact hY hy)⟩
theorem Keep.putObj {D:Nat} {Y:Nat→Prop} {A W:World} (h:Keep D Y A W) {l:Nat} (hD:D≤l) (hY: ¬ Y l) (o:Obj):Keep D Y A (W.putObj l o):=
 h.trans ⟨rfl,rfl,rfl,by simp,fun k hk hy=>World.putObj_heap_other (fun e=>by subst e;rcases hy with hy | hy;omega;exact hY hy)⟩
theorem Keep.less {D D':Nat} {Y:Nat→Prop} {W W':World} (h:Keep D Y W W') (hD:D'≤D):Keep D' Y W W':=⟨h.os,h.tape,h.output,h.size,fun k hk hy=>h.block k hk (by rcases hy with hy | hy;exact .inl (by omega);exact .inr hy)⟩
theorem Keep.below {D B:Nat} {Y:Nat→Prop} {a W W':World} (h:Keep D Y W W') (hB:B≤D) (hb:Below B a W) (hBW:B≤W.heap.size):Below B a W':=
 hb.trans ⟨h.os,h.tape,h.output,h.size,fun k hk=>h.block k (by omega) (.inl (by omega))⟩
theorem Keep.cell {D:Nat} {Y:Nat→Prop} {W W':World} (h:Keep D Y W W') {p:Addr} (hp:p.block < W.heap.size) (hy:p.block < D∨Y p.block):W'.cell? p=W.cell? p:=World.cell?_of_block (h.block _ hp hy)
structure Round (Y Y':Nat→Prop) (W W':World):Prop where
 os:W'.os=W.os
 tape:W'.tape=W.tape
 output:W'.output=W.output
 size:W.heap.size≤W'.heap.size
 block:∀ k,k < W.heap.size→¬ Y k→W'.heap[k]? =W.heap[k]?
 more:∀ k,Y' k→Y k∨W.heap.size≤k
 lt:∀ k,Y' k→k < W'.heap.size
theorem Round.refl {Y:Nat→Prop} {W:World} (h:∀ k,Y k→k < W.heap.size):Round Y Y W W:=⟨rfl,rfl,rfl,Nat.le_refl _,fun _ _ _=>rfl,fun _ h=>.inl h,h⟩
theorem Round.of_below {Y:Nat→Prop} {W W':World} (hY:∀ k,Y k→k < W.heap.size) (h:Below W.heap.size W W'):Round Y Y W W':=
 ⟨h.os,h.tape,h.output,h.size,fun k hk _=>h.block k hk,fun _ h=>.inl h,fun k hk=>Nat.lt_of_lt_of_le (hY k hk) h.size⟩
theorem Round.trans {Y Y' Y'':Nat→Prop} {A B C:World} (h:Round Y Y' A B) (k:Round Y' Y'' B C):Round Y Y'' A C:=
 ⟨k.os.trans h.os,k.tape.trans h.tape,k.output.trans h.output,Nat.le_trans h.size k.size,
  fun i hi hy=>(k.block i (Nat.lt_of_lt_of_le hi h.size) (fun hy'=>by rcases h.more i hy' with x | x;exact hy x;omega)).trans (h.block i hi hy),
  fun i hi=>by rcases k.more i hi with x | x;(exact h.more i x);(right;have:=h.size;omega),k.lt⟩
theorem Round.cell {Y Y':Nat→Prop} {W W':World} (h:Round Y Y' W W') {p:Addr} (hp:p.block < W.heap.size) (hy: ¬ Y p.block):W'.cell? p=W.cell? p:=World.cell?_of_block (h.block _ hp hy)
theorem Round.out {Y Y':Nat→Prop} {W W':World} (h:Round Y Y' W W') {k:Nat} (hk:k < W.heap.size) (hy: ¬ Y k): ¬ Y' k:=fun hy'=>by rcases h.more k hy' with x | x;exact hy x;omega
def orL (Y:Nat→Prop) (l:Nat) (k:Nat):Prop:=Y k∨k=l
def Yields {α:Type} (F:Fence) (n:Nat) (P:Program) (g:Nat) (lb:Array Value) (encs:α→Array Value) (ys:List α) (H:(Nat→Prop)→World→Prop):Prop:=
 ∀ (l:Nat) (J Jx:Nat→(Nat→Prop)→World→Prop) (Y:Nat→Prop) (W:World),
  (∀ i Y A B,J i Y A→Keep W.heap.size Y A B→J i Y B)→(∀ i Y A B,Jx i Y A→Keep W.heap.size Y A B→Jx i Y B)→
  (∀ i x Y A,ys[i]? =some x→J i Y A→(∀ k,Y k→k < A.heap.size)→YieldAt F (n - 1) P l (encs x) A fun e B=>
    (e= .returned (.bool true)∧∃ Y',J (i+1) Y' B∧Round (orL Y l) (orL Y' l) A B)∨(e= .returned (.bool false)∧∃ Y',Jx (i+1) Y' B))→
  (∀ k,Y k→k < W.heap.size)→l < W.heap.size→H (orL Y l) W→J 0 Y W→
  CallsIn F n P g (#[.func (.yield l) #[] #[]] ++ lb) W fun e W'=>(∃ v,e= .returned v)∧((∃ Y',J ys.length Y' W')∨(∃ i Y',Jx i Y' W'))
def bodyY (I Ix:Nat→(Nat→Prop)→World→Prop) (Ixc:Code→Nat→(Nat→Prop)→World→Prop) (i:Nat) (Y:Nat→Prop) (W:World):Exit→Act→World→Prop
 | .normal,_,W'=>∃ Y',I (i+1) Y' W'∧Round Y Y' W W'
 | .ret,_,W'=>∃ Y',Ixc .ret (i+1) Y' W'∧Round Y Y' W W'
 | .exit id,_,W'=>∃ Y',Ixc (.exit id) (i+1) Y' W'∧Round Y Y' W W'
 | .goto t,_,W'=>∃ Y',Ixc (.goto t) (i+1) Y' W'∧Round Y Y' W W'
 | .panic _,_,_=>False
 | .outgrown,_,_=>False
variable {F:Fence} {n:Nat} {P:Program}
theorem rangeY {α:Type} {g:Operand} {ps:Array Tmp} {assign body:Code} {Q:Exit→Act→World→Prop} {a:Act} {w:World}
   (hro:F.round=none) (h1:1≤n) {gf:Nat} {lb:Array Value} (hg:a.eval g= .func (.func gf) #[] lb) (hFg:F.fn gf) (eg:∀ args w,(callFunc gf args).run P w= .ok (.enter gf args) w)
   {encs:α→Array Value} {ys:List α} {H:(Nat→Prop)→World→Prop} (hseq:Yields F (n - 1) P gf lb encs ys H) (hps:∀ x,(encs x).size=ps.size)
   (I:Nat→(Nat→Prop)→World→Prop) (Ix:Code→Nat→(Nat→Prop)→World→Prop) (Y0:Nat→Prop) (hY0:∀ k,Y0 k→k < w.heap.size)
   (hI:∀ i Y A B,I i Y A→Keep w.heap.size Y A B→I i Y B) (hIx:∀ c i Y A B,Ix c i Y A→Keep w.heap.size Y A B→Ix c i Y B)
   (h0:I 0 Y0 w) (hH:∀ W Z,Below w.heap.size w W→(∀ k,Z k→Y0 k∨w.heap.size≤k)→H Z W)
   (Ax:α→Act→World→Prop) (hAx:∀ x a' A B,Ax x a' A→(∀ k,k < A.heap.size→(∃ c e f,A.heap[k]? =some (.cells c e f))→B.heap[k]? =A.heap[k]?)→Ax x a' B)
   (hassign:∀ (l i:Nat) (x:α) (Y:Nat→Prop) (W:World) (K:Act→World→Prop),ys[i]? =some x→I i Y W→(∀ k,Y k→k < W.heap.size)→
     (∀ a' W',Below W.heap.size W W'→Ax x a' W'→K a' W')→
     assign.wpIn (F.inRound l) (n - 1 - 1) P (Exit.then K (fun _ _ _=>False)) {tmps:=(ps.zip (encs x)).foldl (fun t (p,v)=>t.setIfInBounds p v) a.tmps,defers:=[]} W)
   (hbody:∀ (l i:Nat) (x:α) (a':Act) (Y:Nat→Prop) (W:World),w.heap.size < l→(∃ r,W.heap[l]? =some (.loop r))→ys[i]? =some x→I i Y W→(∀ k,Y k→k < W.heap.size)→Ax x a' W→
     body.wpIn (F.inRound l) (n - 1 - 1) P (bodyY I (fun _ _ _=>False) Ix i Y W) a' W)
   (hdone:∀ (Y:Nat→Prop) (W:World),I ys.length Y W→W.heap[w.heap.size]? =some (.deferred (some []))→Q .normal {a with defers:={target:=.collected w.heap.size,args:= #[]} :: a.defers} W)
   (hstop:∀ (c:Code) (i:Nat) (Y:Nat→Prop) (W:World),Ix c i Y W→W.heap[w.heap.size]? =some (.deferred (some []))→c.wpIn F n P Q {a with defers:={target:=.collected w.heap.size,args:= #[]} :: a.defers} W):
   (Code.rangeFunc g ps assign body).wpIn F n P Q a w:=by
 refine wpIn_rangeFunc ?_
 intro fn hfn
 rw [hro]
 obtain ⟨rec,hrec⟩:∃ rec:LoopState→Option Code→Loop,rec=fun st pe=>{state:=st,pending:=pe,fn,tmps:=a.tmps,params:=ps,assign,body,defers:=w.heap.size}:=⟨_,rfl⟩
 obtain ⟨W1,hW1⟩:∃ W1,(w.alloc (.deferred (some []))).alloc (.loop (rec .ready none))=W1:=⟨_,rfl⟩
 have hL1:W1.heap[w.heap.size+1]? =some (.loop (rec .ready none)):=by
   rw [←hW1];have:=World.alloc_heap_new (w.alloc (.deferred (some []))) (.loop (rec .ready none));rwa [World.size_alloc] at this
 have hK1:W1.heap[w.heap.size]? =some (.deferred (some [])):=by
   rw [←hW1];exact (Below.heap_alloc _ _ _ (by simp)).trans (World.alloc_heap_new w _)
 have hz1:W1.heap.size=w.heap.size+2:=by rw [←hW1];simp
 have hb1:Below w.heap.size w W1:=by
   rw [←hW1];exact (((Below.refl _ w).alloc (Nat.le_refl _) _).alloc (by simp) _)
 have hI1:I 0 Y0 W1:=hI _ _ _ _ h0 (Keep.of_below hb1)
 refine ⟨w.heap.size+1,[{target:=.collected w.heap.size,args:= #[]}],W1,{target:=.fn (.func gf) lb,args:= #[.func (.yield (w.heap.size+1)) #[] #[]]},W1,gf,
   #[.func (.yield (w.heap.size+1)) #[] #[]] ++ lb,W1,?_,?_,?_,?_,fun _=>h1,?_⟩
 · rw [←hW1,hrec];exact run_enterLoop_outer _ _ _ _ _
 · simp only [resolve,hg]
   simp [go_sem]
 · intro f' hf';simp [Target.leads] at hf';subst hf';exact hFg
 · simp [invoke,go_sem,eg]
 ·
   have keepW:∀ {Y:Nat→Prop} {A B:World},Keep W1.heap.size Y A B→Keep w.heap.size Y A B:=fun h=>h.less (by omega)
   refine (hseq (w.heap.size+1)
     (fun i Y W=>I i Y W∧(¬ Y w.heap.size∧¬ Y (w.heap.size+1))∧W.heap[w.heap.size+1]? =some (.loop (rec .ready none))∧W.heap[w.heap.size]? =some (.deferred (some [])))
     (fun i Y W=>∃ c,Ix c i Y W∧(¬ Y w.heap.size∧¬ Y (w.heap.size+1))∧W.heap[w.heap.size+1]? =some (.loop (rec .done (some c)))∧W.heap[w.heap.size]? =some (.deferred (some [])))
     Y0 W1
     (fun i Y A B hs hk=>⟨hI _ _ _ _ hs.1 (keepW hk),hs.2.1,(hk.block _ (Array.getElem?_eq_some_iff.1 hs.2.2.1).1 (.inl (by omega))).trans hs.2.2.1,(hk.block _ (Array.getElem?_eq_some_iff.1 hs.2.2.2).1 (.inl (by omega))).trans hs.2.2.2⟩)
     (fun i Y A B hs hk=>by
       obtain ⟨c,hc,hy,hl,hd⟩:=hs
       exact ⟨c,hIx _ _ _ _ _ hc (keepW hk),hy,(hk.block _ (Array.getElem?_eq_some_iff.1 hl).1 (.inl (by omega))).trans hl,(hk.block _ (Array.getElem?_eq_some_iff.1 hd).1 (.inl (by omega))).trans hd⟩)
     ?_ (fun k hk=>by have:=hY0 k hk;omega) (by omega) (hH W1 _ hb1 (fun k hk=>by rcases hk with h | h;exact .inl h;right;omega)) ⟨hI1,⟨fun h=>by have:=hY0 _ h;omega,fun h=>by have:=hY0 _ h;omega⟩,hL1,hK1⟩).mono ?_
   ·
     rintro i x Y W hx ⟨hi,⟨hy0,hy1⟩,hl,hk⟩ hlt0
     have hlt:w.heap.size+1 < W.heap.size:=(Array.getElem?_eq_some_iff.1 hl).1
     have hy:=run_yield (P:=P) (args:=encs x) hl (by rw [hrec];exact hps x)
     rw [hrec] at hy
     refine ⟨fn,_,assign,body,hy,roundIn_of_wpIn hfn (hassign _ i x Y W _ hx hi hlt0 ?_)⟩
     clear hy
     intro a' Wa hba hax
     have hla:Wa.heap[w.heap.size+1]? =some (.loop (rec .ready none)):=(hba.block _ hlt).trans hl
     have hka:Wa.heap[w.heap.size]? =some (.deferred (some [])):=(hba.block _ (by omega)).trans hk
     have hlta:w.heap.size+1 < Wa.heap.size:=Nat.lt_of_lt_of_le hlt hba.size
     refine ⟨_,run_beginRound hla (by rw [hrec]),?_⟩
     obtain ⟨Wb,hWb⟩:∃ Wb,Wa.putObj (w.heap.size+1) (.loop {rec .ready none with state:=.busy})=Wb:=⟨_,rfl⟩
     have hl2:Wb.heap[w.heap.size+1]? =some (.loop {rec .ready none with state:=.busy}):=by rw [←hWb];exact World.putObj_heap_same hlta
     have hk2:Wb.heap[w.heap.size]? =some (.deferred (some [])):=by rw [←hWb];exact (World.putObj_heap_other (by omega)).trans hka
     have hsb:Wb.heap.size=Wa.heap.size:=by rw [←hWb];simp
     have kb:Keep w.heap.size Y W Wb:=by rw [←hWb];exact (Keep.of_below hba).putObj (by omega) hy1 _
     have hib:I i Y Wb:=hI _ _ _ _ hi kb
     have haxb:Ax x a' Wb:=hAx _ _ _ _ hax (fun k hk ⟨c,e,f,hc⟩=>by rw [←hWb];exact World.putObj_heap_other (fun e'=>by subst e';rw [hla] at hc;cases hc))
     have hltb:∀ k,Y k→k < Wb.heap.size:=fun k hk=>by have:=hlt0 k hk;have:=hba.size;omega
     rw [hWb]
     refine wpIn_mono (hbody _ i x a' Y Wb (by omega) ⟨_,hl2⟩ hx hib hltb haxb) ?_
     have fin:∀ (jump:Option Code) (Y':Nat→Prop) (W3:World),Round Y Y' Wb W3→
        (Instr.endRound (w.heap.size+1) jump).run P W3= .ok (.bool jump.isNone) (W3.putObj (w.heap.size+1) (.loop (rec (if jump.isNone then .ready else .done) jump)))∧
        (W3.putObj (w.heap.size+1) (.loop (rec (if jump.isNone then .ready else .done) jump))).heap[w.heap.size+1]? =some (.loop (rec (if jump.isNone then .ready else .done) jump))∧
        (W3.putObj (w.heap.size+1) (.loop (rec (if jump.isNone then .ready else .done) jump))).heap[w.heap.size]? =some (.deferred (some []))∧
        Keep w.heap.size Y' W3 (W3.putObj (w.heap.size+1) (.loop (rec (if jump.isNone then .ready else .done) jump)))∧(¬ Y' w.heap.size∧¬ Y' (w.heap.size+1)):=fun jump Y' W3 hr3=>by
       have hl3:=(hr3.block _ (by omega) hy1).trans hl2
       have hk3:=(hr3.block _ (by omega) hy0).trans hk2
       have o1: ¬ Y' (w.heap.size+1):=hr3.out (by omega) hy1
       have:=run_endRound (P:=P) jump hl3
       rw [hrec] at this ⊢
       exact ⟨this,World.putObj_heap_same (Array.getElem?_eq_some_iff.1 hl3).1,(World.putObj_heap_other (by omega)).trans hk3,(Keep.refl _ _ _).putObj (by omega) o1 _,hr3.out (by omega) hy0,o1⟩
     rintro e a3 W3 hp
     cases e with
     | normal=>
       obtain ⟨Y',hi3,hr3⟩:=hp
       obtain ⟨hr,hl4,hk4,hkp,ho⟩:=fin none Y' W3 hr3
       refine ⟨_,_,hr,.inl ⟨rfl,Y',⟨hI _ _ _ _ hi3 hkp,ho,hl4,hk4⟩,?_⟩⟩
       refine ⟨hr3.os.trans kb.os,hr3.tape.trans kb.tape,hr3.output.trans kb.output,?_,fun k hk hnk=>?_,fun k hk=>?_,fun k hk=>?_⟩
       ·have:=hr3.size;have:=kb.size;simp;omega
       ·have hs:=kb.size
        have hne:k≠w.heap.size+1:=fun e=>hnk (.inr e)
        have hny: ¬ Y k:=fun h=>hnk (.inl h)
        rw [World.putObj_heap_other hne,hr3.block k (by omega) hny, ←hWb,World.putObj_heap_other hne]
        exact hba.block k hk
       ·rcases hk with hk | hk
        · rcases hr3.more k hk with h | h
          ·exact .inl (.inl h)
          ·right;have:=kb.size;omega
        · exact .inl (.inr hk)
       ·rcases hk with hk | hk
        · have:=hr3.lt k hk;simpa using this
        · have:=hr3.size;have:=kb.size;subst hk;simp;omega
     | ret=>
       obtain ⟨Y',hi3,hr3⟩:=hp
       obtain ⟨hr,hl4,hk4,hkp,ho⟩:=fin (some .ret) Y' W3 hr3
       exact ⟨_,_,hr,.inr ⟨rfl,Y',.ret,hIx _ _ _ _ _ hi3 hkp,ho,hl4,hk4⟩⟩
     | exit id=>
       obtain ⟨Y',hi3,hr3⟩:=hp
       obtain ⟨hr,hl4,hk4,hkp,ho⟩:=fin (some (.exit id)) Y' W3 hr3
       exact ⟨_,_,hr,.inr ⟨rfl,Y',.exit id,hIx _ _ _ _ _ hi3 hkp,ho,hl4,hk4⟩⟩
     | goto t=>
       obtain ⟨Y',hi3,hr3⟩:=hp
       obtain ⟨hr,hl4,hk4,hkp,ho⟩:=fin (some (.goto t)) Y' W3 hr3
       exact ⟨_,_,hr,.inr ⟨rfl,Y',.goto t,hIx _ _ _ _ _ hi3 hkp,ho,hl4,hk4⟩⟩
     | panic ch=>exact hp.elim
     | outgrown=>exact hp.elim
   ·
     rintro e W2 ⟨⟨v,rfl⟩,(⟨Y',hi,hy,hl,hk⟩ | ⟨i,Y',c,hi,hy,hl,hk⟩)⟩
     · exact ⟨none,_,by have:=run_endLoop (P:=P) hl (by rw [hrec];simp);rw [hrec] at this;exact this,hdone Y' _ (hI _ _ _ _ hi ((Keep.refl _ _ _).putObj (by omega) hy.2 _)) ((World.putObj_heap_other (by omega)).trans hk)⟩
     · exact ⟨some c,_,by have:=run_endLoop (P:=P) hl (by rw [hrec];simp);rw [hrec] at this;exact this,hstop c i Y' _ (hIx _ _ _ _ _ hi ((Keep.refl _ _ _).putObj (by omega) hy.2 _)) ((World.putObj_heap_other (by omega)).trans hk)⟩
end Go.Proofs.YtdlmdaononclgaaGreatDoor
namespace Go.Proofs.YtdlmdaononclgaaGreatDoor
open Go.RowKit
set_option linter.unusedVariables false
set_option linter.unusedSimpArgs false
def noDefer (l:List Oper):Bool:=l.all fun o=>match o.op with | .defer _=>false | _=>true
theorem noDefer_spec {l:List Oper} (h:noDefer l=true) {i:Nat} {o:Oper} (ho:l[i]? =some o):∀ c,o.op≠.defer c:=by
 intro c hc
 have:=List.all_eq_true.1 h o (List.mem_of_getElem? ho)
 rw [hc] at this
 cases this
variable {F:Fence} {n:Nat} {P:Program}
theorem opIn_round {ops:Array Oper} {Q:Exit→Act→World→Prop} (L:Nat) (hro:F.round=none) (hd:noDefer ops.toList=true) {i:Nat} {K:Act→World→Prop} {a:Act} {w:World}
   (h:wpOpIn F n P ops Q i K a w):wpOpIn (F.inRound L) n P ops Q i K a w:=by
 unfold wpOpIn at h ⊢
 cases ho:ops[i]? with
 | none=>simp only [ho] at h ⊢;exact h
 | some o=>
   simp only [ho] at h ⊢
   by_cases hw:Region.wanted o (yielded ops a.tmps)=true
   · simp only [hw,if_true] at h ⊢
     have hnd:=noDefer_spec hd (i:=i) (o:=o) (by simpa using ho)
     refine ⟨h.1,?_⟩
     have h2:=h.2
     rw [Oper.semAt_eq _ _ _ hnd] at h2 ⊢
     exact h2
   · simp only [hw,if_false,Bool.false_eq_true] at h ⊢
     exact h
theorem Qdk {md:Region.Mode} {ops:Array Oper} {Q:Exit→Act→World→Prop} (L:Nat) (hro:F.round=none) (hd:noDefer ops.toList=true):∀ (fuel:Nat) (listed:Array Bool) (a:Act) (w:World),
   wpAnyIn F n P md ops Q fuel listed a w→wpAnyIn (F.inRound L) n P md ops Q fuel listed a w
 | 0,_,_,_,h=>h
 | fuel+1,listed,a,w,h=>⟨h.1,fun i hi=>opIn_round L hro hd (wpOpIn_mono (fun a w=>Qdk L hro hd fuel _ a w) (h.2 i hi))⟩
theorem Qaf {id:Nat} {Q:Exit→Act→World→Prop} {a:Act} {w:World} {l:List Oper} (L:Nat) (hm:P.follows .mixedOrders=true) (hB:Region.lexB .any l.toArray=true) (hd:noDefer l=true)
  (h:wpQuietIn Fence.wide n P l.toArray (fun w'=>∃ n,w'=w.drewN n) (fun a'=>∀ w',(∃ n,w'=w.drewN n)→Q .normal a' w') l a):(Code.region id l.toArray true).wpIn (Fence.wide.inRound L) n P Q a w:=by
 have hB':=hB
 simp only [Region.lexB,Bool.and_eq_true] at hB
 refine wpIn_region_any hm (Qdk L rfl (by simpa using hd) _ _ _ _ (wpAnyIn_of_quiet (F:=Fence.wide) (C:=fun w'=>∃ n,w'=w.drewN n) (Q:=fun a'=>∀ w',(∃ n,w'=w.drewN n)→Q .normal a' w') rfl (fun _ w' hw' h=>h w' hw') _ _ _ _ ⟨1,rfl⟩ ?_))
 have:=wpAnyQIn_lex (F:=Fence.wide) (n:=n) (P:=P) (C:=fun w'=>∃ n,w'=w.drewN n) (md:=.any) hB.1 l 0 (Array.replicate l.toArray.size false) a (by simp) (by simpa using hB.2) h
 simpa using this
end Go.Proofs.YtdlmdaononclgaaGreatDoor
namespace Go.Proofs.YtdlmdaononclgaaGreatDoor
open Go.RowKit
set_option linter.unusedVariables false
set_option linter.unusedSimpArgs false
attribute [local go_sem] Oper.semAt_some
def pairB (a b:Int):Bool:=decide (0 < Qat a b) || decide (0 < Qat b a)
def manyN (xs:List Int) (i:Nat):Nat:=
 if i+2 < xs.length∧pairB (ix xs (i+1) - ix xs i) (ix xs (i+2) - ix xs (i+1))=true then 2 else 1
theorem manyN_pos (xs:List Int) (i:Nat):1≤manyN xs i:=by unfold manyN;split <;> omega
def grp (xs:List Int):Nat→Nat→List (Int × Int)
 | 0,_=>[]
 | f+1,i=>if i+1 < xs.length then ((i:Int),(manyN xs i:Int)) :: grp xs f (i+manyN xs i) else []
def Qaz (xs:List Int):List (Int × Int):=grp xs xs.length 0
theorem grp_step {xs:List Int} {f i:Nat} (hf:xs.length≤f+i) (hi:i+1 < xs.length):
  ∃ f',grp xs f i=((i:Int),(manyN xs i:Int)) :: grp xs f' (i+manyN xs i)∧xs.length≤f'+(i+manyN xs i):=by
 obtain ⟨f',rfl⟩:∃ f',f=f'+1:=⟨f - 1,by omega⟩
 have:=manyN_pos xs i
 exact ⟨f',by rw [grp,if_pos hi],by omega⟩
theorem grp_end {xs:List Int} {f i:Nat} (hi: ¬ i+1 < xs.length):grp xs f i=[]:=by
 cases f with
 | zero=>rfl
 | succ f=>rw [grp,if_neg hi]
theorem drop_cons {α:Type} {l:List α} {k:Nat} {x:α} {r:List α} (h:l.drop k=x :: r):l[k]? =some x∧l.drop (k+1)=r:=by
 constructor
 ·have:=congrArg (fun l=>l[0]?) h
  simpa [List.getElem?_drop] using this
 ·rw [←List.drop_drop,h];rfl
def encG (x:Int × Int):Array Value:= #[.agg #[.int .i64 x.1,.int .i64 x.2]]
structure HG (q:Nat) (xs:List Int) (A:Option Addr) (c:Nat) (Y:Nat→Prop) (W:World):Prop where
 box:W.cell? ⟨q,0,none⟩=some (.slice A xs.length c)
 qlt:q < W.heap.size
 qY: ¬ Y q
 cells:∃ b off,A=some ⟨b,off,none⟩∧b < W.heap.size∧¬ Y b∧∀ j,j < xs.length→W.cell? ⟨b,off+j,none⟩=some (.int .i64 (ix xs j))
theorem OkP.dif {many most:Int} {xs:List Int} (h:OkP many most xs) (j:Nat) (hj:j+1 < xs.length):0 < ix xs (j+1) - ix xs j∧ix xs (j+1) - ix xs j≤most:=by
 have a:=h.inc j (by omega)
 have b:=h.lo j (by omega)
 have d:=h.hi' (j+1) (by omega)
 omega
set_option maxHeartbeats 2000000 in
set_option maxRecDepth 4000 in
theorem groups1_yields (n:Nat) (q:Nat) (xs:List Int) (A:Option Addr) (c:Nat) (hP:OkP 9 100000 xs) (hc:xs.length≤c) (hm:c≤9223372036854775807):
  Yields Fence.wide n Tryz.prog 87 #[.pointer (some ⟨q,0,none⟩)] encG (Qaz xs) (HG q xs A c):=by
 intro l J Jx Y W hJ hJx hY hYlt hlW hH h0
 obtain ⟨hbox,hq,hqY,b,off,rfl,hb,hbY,hcell⟩:=hH
 have hlen:xs.length≤9:=by have:=hP.many;omega
 refine callsIn_of_wp Tryz.func87 rfl trivial ?_ rfl
 simp only [Tryz.ntmps87,List.size_toArray,List.length_cons,List.length_nil,Nat.reduceAdd,Nat.reduceSub,Array.replicate_succ,Array.replicate_zero,List.push_toArray,List.append_toArray,List.nil_append,List.cons_append]
 gi_wp2
 gi_loopw [3] (fun v wr=>∃ (k i f:Nat) (Y':Nat→Prop),v= .int .i64 i∧i≤9∧(Qaz xs).drop k=grp xs f i∧k≤(Qaz xs).length∧xs.length≤f+i∧J k Y' wr∧(∀ k,Y' k→k < wr.heap.size)∧¬ Y' q∧¬ Y' b∧W.heap.size≤wr.heap.size∧wr.cell? ⟨q,0,none⟩=W.cell? ⟨q,0,none⟩∧∀ j,wr.cell? ⟨b,j,none⟩=W.cell? ⟨b,j,none⟩)
  (fun v _=>10 - (intOf v).toNat)
 case atStart=>exact ⟨0,0,xs.length,Y,rfl,by omega,rfl,Nat.zero_le _,by omega,h0,hYlt,fun h=>hqY (.inl h),fun h=>hbY (.inl h),Nat.le_refl _,rfl,fun _=>rfl⟩
 case round=>
  obtain ⟨k,i,f,Y',rfl,hi9,hdrop,hk,hf,hj,hlt,hqn,hbn,hsz,hcq,hcb⟩:=hrel
  have hq':q < wr.heap.size:=by omega
  have hb':b < wr.heap.size:=by omega
  have hbox':wr.cell? ⟨q,0,none⟩=some (.slice (some ⟨b,off,none⟩) xs.length c):=hcq.trans hbox
  have HC:=Lib.hid (fun (j:Nat) (hj:j < xs.length)=>(hcb (off+j)).trans (hcell j hj))
  have HCB:=Lib.hid hcb
  have HD:=Lib.hid hdrop
  have HJ:=Lib.hid hJ
  have HY:=Lib.hid hY
  have HLT:=Lib.hid hlt
  have HCQ:=Lib.hid hcq
  clear hcb hdrop hcell hJ hJx hY hlt hYlt hcq hbox
  by_cases h1:i+1 < xs.length
  · obtain ⟨f',hg,hf'⟩:=grp_step hf h1
    obtain ⟨hx,hr⟩:=drop_cons (HD.out.trans hg)
    clear hg
    by_cases h2:i+2 < xs.length
    ·have f0:=hP.lo i (by omega)
     have f1:=hP.dif i (by omega)
     have f2:=hP.dif (i+1) (by omega)
     have g0:=hP.hi' i (by omega)
     have g1:=hP.hi' (i+1) (by omega)
     have g2:=hP.hi' (i+2) (by omega)
     rw [show i+1+1=i+2 from rfl] at f2
     obtain ⟨d1,hd1⟩:∃ d,ix xs (i+1) - ix xs i=d:=⟨_,rfl⟩
     obtain ⟨d2,hd2⟩:∃ d,ix xs (i+2) - ix xs (i+1)=d:=⟨_,rfl⟩
     rw [hd1] at f1
     rw [hd2] at f2
     have H1:=Lib.hid hd1
     have H2:=Lib.hid hd2
     have e1:IntKind.i64.wrap (ix xs (i+1) - ix xs i)=d1:=by rw [hd1];exact IntWalk.i64_in _ ⟨by omega,by omega⟩
     have e2:IntKind.i64.wrap (ix xs (i+2) - ix xs (i+1))=d2:=by rw [hd2];exact IntWalk.i64_in _ ⟨by omega,by omega⟩
     have y0:=HC.out i (by omega)
     have y1:=HC.out (i+1) (by omega)
     have y2:=HC.out (i+2) (by omega)
     clear f0 g0 g1 g2
     obtain ⟨f11,f12⟩:=f1
     obtain ⟨f21,f22⟩:=f2
     by_cases r1:0 < Qat d1 d2
     ·have q1:decide (0 < Qat d1 d2)=true:=decide_eq_true r1
      have hm1:manyN xs i=2:=by unfold manyN;rw [if_pos ⟨h2,by rw [H1.out,H2.out];simp only [pairB];simp [*]⟩]
      rw [hm1] at hx hr hf'
      have hx':(Qaz xs)[k]? =some ((i:Int),2):=hx
      have HX:=Lib.hid hx'
      have HR:=Lib.hid hr
      clear hx hx' hr hm1
      gi_wp2
      gi_quiet (fail)
      gi_wp2_with (first | ((first | refine ⟨trivial,fun h=>Qah h,?_⟩ | refine ⟨trivial,?_⟩);gi_at_call 72;(with_reducible refine (callsIn_wide.2 (ratio_any _ _ (by omega) (by omega) (by omega) (by omega) _)).mono ?_);rintro e w' ⟨rfl,rfl⟩) | (refine ⟨trivial,?_⟩;go_at_K))
      obtain ⟨fn,tmps,assign,body,hy,hR⟩:=HY.out k _ Y' (((wr.alloc (.cells #[.int .i64 i,.int .i64 1] 110)).drewN nq).setCell ⟨wr.heap.size,1,none⟩ (.int .i64 2)) HX.out (HJ.out _ _ _ _ hj ((((Keep.refl _ _ _).alloc _).drewN _).setCell (p:=⟨wr.heap.size,1,none⟩) hsz (fun h=>absurd (HLT.out _ h) (Nat.lt_irrefl _)) _)) (fun j hj=>by have:=HLT.out j hj;simp [Qac];omega)
      simp only [encG] at hy
      go_simp
      refine ⟨fun h=>absurd h (by simp [Fence.wide]),hR.mono ?_⟩
      rintro e W3 (⟨rfl,Y3,hj3,hr3⟩ | ⟨rfl,Y3,hjx3⟩)
      ·have nq: ¬ orL Y' l q:=fun h=>h.elim hqn (fun h=>hqY (.inr h))
       have nb: ¬ orL Y' l b:=fun h=>h.elim hbn (fun h=>hbY (.inr h))
       have ng: ¬ orL Y' l wr.heap.size:=fun h=>h.elim (fun h=>by have:=HLT.out _ h;omega) (fun h=>by omega)
       have cq:=hr3.cell (p:=⟨q,0,none⟩) (by simp [Qac];omega) nq
       have cb:=fun j=>hr3.cell (p:=⟨b,j,none⟩) (by simp [Qac];omega) nb
       have cg:=hr3.cell (p:=⟨wr.heap.size,1,none⟩) (by simp [Qac]) ng
       have cg':W3.cell? ⟨wr.heap.size,1,none⟩=some (.int .i64 2):=by rw [cg];simp [go_sem]
       have hs3:=hr3.size
       simp only [World.size_alloc,World.size_setCell,Qac] at hs3
       have hn3:wr.heap.size < W3.heap.size:=by omega
       have CQ:=Lib.hid cq
       have CB:=Lib.hid cb
       have R3:=Lib.hid hr3
       clear cq cb cg hr3 hy hR
       gi_wp2
       go_roundw
       case rel=>
        have hk1:k < (Qaz xs).length:=(List.getElem?_eq_some_iff.1 HX.out).1
        refine ⟨k+1,i+2,f',Y3,by first | rfl | go_num,by omega,HR.out,by omega,hf',hj3,fun j hj=>R3.out.lt j (.inl hj),fun h=>(R3.out.out (by simp [Qac];omega) nq) (.inl h),fun h=>(R3.out.out (by simp [Qac];omega) nb) (.inl h),by omega,?_,fun j=>?_⟩
        ·rw [CQ.out];simp [go_sem, *];first | exact HCQ.out | (rw [←HCQ.out];simp [go_sem, *])
        ·rw [CB.out];rw [←HCB.out j];simp [go_sem, *]
       case measure=>simp [intOf];omega
      ·gi_wp2
       refine bodyPost_ret (results_none rfl _ _ _) rfl ?_
       exact ⟨⟨_,rfl⟩,.inr ⟨_,_,hjx3⟩⟩
     ·have q1:decide (0 < Qat d1 d2)=false:=decide_eq_false r1
      by_cases r2:0 < Qat d2 d1
      ·have q2:decide (0 < Qat d2 d1)=true:=decide_eq_true r2
       have hm1:manyN xs i=2:=by unfold manyN;rw [if_pos ⟨h2,by rw [H1.out,H2.out];simp only [pairB];simp [*]⟩]
       rw [hm1] at hx hr hf'
       have hx':(Qaz xs)[k]? =some ((i:Int),2):=hx
       have HX:=Lib.hid hx'
       have HR:=Lib.hid hr
       clear hx hx' hr hm1
       gi_wp2
       gi_quiet (fail)
       gi_wp2_with (first | ((first | refine ⟨trivial,fun h=>Qah h,?_⟩ | refine ⟨trivial,?_⟩);gi_at_call 72;(with_reducible refine (callsIn_wide.2 (ratio_any _ _ (by omega) (by omega) (by omega) (by omega) _)).mono ?_);rintro e w' ⟨rfl,rfl⟩) | (refine ⟨trivial,?_⟩;go_at_K))
       obtain ⟨fn,tmps,assign,body,hy,hR⟩:=HY.out k _ Y' (((wr.alloc (.cells #[.int .i64 i,.int .i64 1] 110)).drewN nq).setCell ⟨wr.heap.size,1,none⟩ (.int .i64 2)) HX.out (HJ.out _ _ _ _ hj ((((Keep.refl _ _ _).alloc _).drewN _).setCell (p:=⟨wr.heap.size,1,none⟩) hsz (fun h=>absurd (HLT.out _ h) (Nat.lt_irrefl _)) _)) (fun j hj=>by have:=HLT.out j hj;simp [Qac];omega)
       simp only [encG] at hy
       go_simp
       refine ⟨fun h=>absurd h (by simp [Fence.wide]),hR.mono ?_⟩
       rintro e W3 (⟨rfl,Y3,hj3,hr3⟩ | ⟨rfl,Y3,hjx3⟩)
       ·have nq: ¬ orL Y' l q:=fun h=>h.elim hqn (fun h=>hqY (.inr h))
        have nb: ¬ orL Y' l b:=fun h=>h.elim hbn (fun h=>hbY (.inr h))
        have ng: ¬ orL Y' l wr.heap.size:=fun h=>h.elim (fun h=>by have:=HLT.out _ h;omega) (fun h=>by omega)
        have cq:=hr3.cell (p:=⟨q,0,none⟩) (by simp [Qac];omega) nq
        have cb:=fun j=>hr3.cell (p:=⟨b,j,none⟩) (by simp [Qac];omega) nb
        have cg:=hr3.cell (p:=⟨wr.heap.size,1,none⟩) (by simp [Qac]) ng
        have cg':W3.cell? ⟨wr.heap.size,1,none⟩=some (.int .i64 2):=by rw [cg];simp [go_sem]
        have hs3:=hr3.size
        simp only [World.size_alloc,World.size_setCell,Qac] at hs3
        have hn3:wr.heap.size < W3.heap.size:=by omega
        have CQ:=Lib.hid cq
        have CB:=Lib.hid cb
        have R3:=Lib.hid hr3
        clear cq cb cg hr3 hy hR
        gi_wp2
        go_roundw
        case rel=>
         have hk1:k < (Qaz xs).length:=(List.getElem?_eq_some_iff.1 HX.out).1
         refine ⟨k+1,i+2,f',Y3,by first | rfl | go_num,by omega,HR.out,by omega,hf',hj3,fun j hj=>R3.out.lt j (.inl hj),fun h=>(R3.out.out (by simp [Qac];omega) nq) (.inl h),fun h=>(R3.out.out (by simp [Qac];omega) nb) (.inl h),by omega,?_,fun j=>?_⟩
         ·rw [CQ.out];simp [go_sem, *];first | exact HCQ.out | (rw [←HCQ.out];simp [go_sem, *])
         ·rw [CB.out];rw [←HCB.out j];simp [go_sem, *]
        case measure=>simp [intOf];omega
       ·gi_wp2
        refine bodyPost_ret (results_none rfl _ _ _) rfl ?_
        exact ⟨⟨_,rfl⟩,.inr ⟨_,_,hjx3⟩⟩
      ·have q2:decide (0 < Qat d2 d1)=false:=decide_eq_false r2
       have hm1:manyN xs i=1:=by unfold manyN;rw [if_neg (fun h=>by have h':=h.2;rw [H1.out,H2.out] at h';simp only [pairB] at h';simp [*] at h')]
       rw [hm1] at hx hr hf'
       have hx':(Qaz xs)[k]? =some ((i:Int),1):=hx
       have HX:=Lib.hid hx'
       have HR:=Lib.hid hr
       clear hx hx' hr hm1
       gi_wp2
       gi_quiet (fail)
       gi_wp2_with (first | ((first | refine ⟨trivial,fun h=>Qah h,?_⟩ | refine ⟨trivial,?_⟩);gi_at_call 72;(with_reducible refine (callsIn_wide.2 (ratio_any _ _ (by omega) (by omega) (by omega) (by omega) _)).mono ?_);rintro e w' ⟨rfl,rfl⟩) | (refine ⟨trivial,?_⟩;go_at_K))
       obtain ⟨fn,tmps,assign,body,hy,hR⟩:=HY.out k _ Y' ((wr.alloc (.cells #[.int .i64 i,.int .i64 1] 110)).drewN nq) HX.out (HJ.out _ _ _ _ hj (((Keep.refl _ _ _).alloc _).drewN _)) (fun j hj=>by have:=HLT.out j hj;simp [Qac];omega)
       simp only [encG] at hy
       go_simp
       refine ⟨fun h=>absurd h (by simp [Fence.wide]),hR.mono ?_⟩
       rintro e W3 (⟨rfl,Y3,hj3,hr3⟩ | ⟨rfl,Y3,hjx3⟩)
       ·have nq: ¬ orL Y' l q:=fun h=>h.elim hqn (fun h=>hqY (.inr h))
        have nb: ¬ orL Y' l b:=fun h=>h.elim hbn (fun h=>hbY (.inr h))
        have ng: ¬ orL Y' l wr.heap.size:=fun h=>h.elim (fun h=>by have:=HLT.out _ h;omega) (fun h=>by omega)
        have cq:=hr3.cell (p:=⟨q,0,none⟩) (by simp [Qac];omega) nq
        have cb:=fun j=>hr3.cell (p:=⟨b,j,none⟩) (by simp [Qac];omega) nb
        have cg:=hr3.cell (p:=⟨wr.heap.size,1,none⟩) (by simp [Qac]) ng
        have cg':W3.cell? ⟨wr.heap.size,1,none⟩=some (.int .i64 1):=by rw [cg];simp [go_sem]
        have hs3:=hr3.size
        simp only [World.size_alloc,World.size_setCell,Qac] at hs3
        have hn3:wr.heap.size < W3.heap.size:=by omega
        have CQ:=Lib.hid cq
        have CB:=Lib.hid cb
        have R3:=Lib.hid hr3
        clear cq cb cg hr3 hy hR
        gi_wp2
        go_roundw
        case rel=>
         have hk1:k < (Qaz xs).length:=(List.getElem?_eq_some_iff.1 HX.out).1
         refine ⟨k+1,i+1,f',Y3,by first | rfl | go_num,by omega,HR.out,by omega,hf',hj3,fun j hj=>R3.out.lt j (.inl hj),fun h=>(R3.out.out (by simp [Qac];omega) nq) (.inl h),fun h=>(R3.out.out (by simp [Qac];omega) nb) (.inl h),by omega,?_,fun j=>?_⟩
         ·rw [CQ.out];simp [go_sem, *];first | exact HCQ.out | (rw [←HCQ.out];simp [go_sem, *])
         ·rw [CB.out];rw [←HCB.out j];simp [go_sem, *]
        case measure=>simp [intOf];omega
       ·gi_wp2
        refine bodyPost_ret (results_none rfl _ _ _) rfl ?_
        exact ⟨⟨_,rfl⟩,.inr ⟨_,_,hjx3⟩⟩
    ·have hm1:manyN xs i=1:=by unfold manyN;rw [if_neg (fun h=>h2 h.1)]
     rw [hm1] at hx hr hf'
     have hx':(Qaz xs)[k]? =some ((i:Int),1):=hx
     have HX:=Lib.hid hx'
     have HR:=Lib.hid hr
     clear hx hx' hr hm1
     gi_wp2_with fail
     obtain ⟨fn,tmps,assign,body,hy,hR⟩:=HY.out k _ Y' (wr.alloc (.cells #[.int .i64 i,.int .i64 1] 110)) HX.out (HJ.out _ _ _ _ hj ((Keep.refl _ _ _).alloc _)) (fun j hj=>by have:=HLT.out j hj;simp [Qac];omega)
     simp only [encG] at hy
     go_simp
     refine ⟨fun h=>absurd h (by simp [Fence.wide]),hR.mono ?_⟩
     rintro e W3 (⟨rfl,Y3,hj3,hr3⟩ | ⟨rfl,Y3,hjx3⟩)
     ·have nq: ¬ orL Y' l q:=fun h=>h.elim hqn (fun h=>hqY (.inr h))
      have nb: ¬ orL Y' l b:=fun h=>h.elim hbn (fun h=>hbY (.inr h))
      have ng: ¬ orL Y' l wr.heap.size:=fun h=>h.elim (fun h=>by have:=HLT.out _ h;omega) (fun h=>by omega)
      have cq:=hr3.cell (p:=⟨q,0,none⟩) (by simp [Qac];omega) nq
      have cb:=fun j=>hr3.cell (p:=⟨b,j,none⟩) (by simp [Qac];omega) nb
      have cg:=hr3.cell (p:=⟨wr.heap.size,1,none⟩) (by simp [Qac]) ng
      have cg':W3.cell? ⟨wr.heap.size,1,none⟩=some (.int .i64 1):=by rw [cg];simp [go_sem]
      have hs3:=hr3.size
      simp only [World.size_alloc,World.size_setCell,Qac] at hs3
      have hn3:wr.heap.size < W3.heap.size:=by omega
      have CQ:=Lib.hid cq
      have CB:=Lib.hid cb
      have R3:=Lib.hid hr3
      clear cq cb cg hr3 hy hR
      gi_wp2
      go_roundw
      case rel=>
       have hk1:k < (Qaz xs).length:=(List.getElem?_eq_some_iff.1 HX.out).1
       refine ⟨k+1,i+1,f',Y3,by first | rfl | go_num,by omega,HR.out,by omega,hf',hj3,fun j hj=>R3.out.lt j (.inl hj),fun h=>(R3.out.out (by simp [Qac];omega) nq) (.inl h),fun h=>(R3.out.out (by simp [Qac];omega) nb) (.inl h),by omega,?_,fun j=>?_⟩
       ·rw [CQ.out];simp [go_sem, *];first | exact HCQ.out | (rw [←HCQ.out];simp [go_sem, *])
       ·rw [CB.out];rw [←HCB.out j];simp [go_sem, *]
      case measure=>simp [intOf];omega
     ·gi_wp2
      refine bodyPost_ret (results_none rfl _ _ _) rfl ?_
      exact ⟨⟨_,rfl⟩,.inr ⟨_,_,hjx3⟩⟩
  · gi_wp2
    go_end0
    refine ⟨⟨_,rfl⟩,.inl ⟨Y',?_⟩⟩
    have e:=HD.out
    rw [grp_end h1] at e
    have:=List.drop_eq_nil_iff.1 e
    rw [show (Qaz xs).length=k by omega]
    exact hj
end Go.Proofs.YtdlmdaononclgaaGreatDoor
namespace Go.Proofs.YtdlmdaononclgaaGreatDoor
open Go.RowKit
set_option linter.unusedVariables false
set_option linter.unusedSimpArgs false
theorem groups_any (A:Option Addr) (n c:Nat) (w:World):
  Calls Tryz.prog 71 #[.slice A n c] w fun e w'=>e= .returned (.func (.func 87) #[] #[.pointer (some ⟨w.heap.size,0,none⟩)])∧w'=w.alloc (.cells #[.slice A n c] 22):=by
 have hmf:∀ (fn:Fn) (first cap:Array Value) (w:World),(Instr.makeFunc fn first cap).run Tryz.prog w= .ok (.func fn first cap) w:=fun _ _ _ _=>rfl
 go_enter Tryz.func71,Tryz.ntmps71
 go_wp2
 go_ret
 exact ⟨rfl,rfl⟩
def Arr (w:World) (g:Nat) (xs:List Int):Prop:=w.heap[g]? =some (.cells (ints xs).toArray 3 (0,0))
theorem Arr.lt {w:World} {g:Nat} {xs:List Int} (h:Arr w g xs):g < w.heap.size:=(Array.getElem?_eq_some_iff.1 h).1
theorem Arr.cell {w:World} {g:Nat} {xs:List Int} (h:Arr w g xs) {j:Nat} (hj:j < xs.length):w.cell? ⟨g,j,none⟩=some (.int .i64 (ix xs j)):=by
 rw [cell_of_row w g j _ _ _ h]
 rw [List.getElem?_toArray,ints_get,List.getElem?_eq_getElem hj]
 simp [ix,List.getD,List.getElem?_eq_getElem hj]
theorem Arr.free {w:World} {g:Nat} {xs:List Int} (h:Arr w g xs) (j:Nat):w.frozen? ⟨g,j,none⟩=false:=by
 unfold Arr at h
 simp [World.frozen?, h]
theorem Arr.set {w:World} {g:Nat} {xs:List Int} (h:Arr w g xs) (j:Nat) (v:Int):Arr (w.setCell ⟨g,j,none⟩ (.int .i64 v)) g (xs.set j v):=by
 unfold Arr at h ⊢
 simp [World.setCell,Array.getElem?_modify,h,ints,List.map_set]
theorem Arr.of_block {w w':World} {g:Nat} {xs:List Int} (h:Arr w g xs) (hb:w'.heap[g]? =w.heap[g]?):Arr w' g xs:=hb.trans h
structure Only (g:Nat) (w w':World):Prop where
 os:w'.os=w.os
 tape:w'.tape=w.tape
 output:w'.output=w.output
 size:w'.heap.size=w.heap.size
 block:∀ k,k≠g→w'.heap[k]? =w.heap[k]?
theorem Only.refl (g:Nat) (w:World):Only g w w:=⟨rfl,rfl,rfl,rfl,fun _ _=>rfl⟩
theorem Only.trans {g:Nat} {a b c:World} (h:Only g a b) (k:Only g b c):Only g a c:=⟨k.os.trans h.os,k.tape.trans h.tape,k.output.trans h.output,k.size.trans h.size,fun i hi=>(k.block i hi).trans (h.block i hi)⟩
theorem Only.setCell {g:Nat} {a w:World} (h:Only g a w) (j:Nat) (v:Value):Only g a (w.setCell ⟨g,j,none⟩ v):=
 h.trans ⟨rfl,rfl,rfl,by simp [World.setCell],fun k hk=>Below.heap_setCell _ _ _ _ hk⟩
theorem Only.drewN {g:Nat} {a w:World} (h:Only g a w) (n:Nat):Only g a (w.drewN n):=⟨h.os,h.tape,h.output,h.size,h.block⟩
theorem Only.cell {g:Nat} {w w':World} (h:Only g w w') {p:Addr} (hp:p.block≠g):w'.cell? p=w.cell? p:=World.cell?_of_block (h.block _ hp)
def addK (cur:List Int) (fr:Nat) (ws:List Int):Nat→List Int
 | 0=>cur
 | k+1=>(addK cur fr ws k).set (fr+k) (ix cur (fr+k)+ix ws k)
theorem Qdh (cur:List Int) (fr:Nat) (ws:List Int):∀ k,(addK cur fr ws k).length=cur.length
 | 0=>rfl
 | k+1=>by rw [addK,List.length_set,Qdh cur fr ws k]
theorem addK_later (cur:List Int) (fr:Nat) (ws:List Int):∀ k j,fr+k≤j→ix (addK cur fr ws k) j=ix cur j
 | 0,_,_=>rfl
 | k+1,j,h=>by
   have:=addK_later cur fr ws k j (by omega)
   rw [←this,addK]
   simp only [ix,List.getD]
   rw [List.getElem?_set_ne (by omega)]
set_option maxHeartbeats 1000000 in
theorem add_any (sb g n cap:Nat) (cur ws:List Int) (fr:Nat) (A:Option Addr) (c B:Nat) (w:World)
  (hs:w.cell? ⟨sb,0,none⟩=some (.slice (some ⟨g,0,none⟩) n cap)) (hn:n=cur.length) (hne:sb≠g) (hbg:∀ b off,A=some ⟨b,off,none⟩→b≠g)
  (ha:Arr w g cur) (hw:RD w B A (ints ws)) (hl:fr+ws.length≤cur.length) (hcl:cur.length≤9) (hcb:∀ j, -1000000000≤ix cur j∧ix cur j≤1000000000) (hwb:∀ j, -1000000000≤ix ws j∧ix ws j≤1000000000):
  Calls Tryz.prog 70 #[.pointer (some ⟨sb,0,none⟩),.int .i64 fr,.slice A ws.length c] w fun e w'=>e= .returned (.tuple #[])∧Arr w' g (addK cur fr ws ws.length)∧Only g w w':=by
 have HCB:=Lib.hid hcb
 have HWB:=Lib.hid hwb
 have HN:=Lib.hid hn
 have HBG:=Lib.hid hbg
 have HA:=Lib.hid ha
 clear hcb hwb hn hbg ha
 go_enter Tryz.func70,Tryz.ntmps70
 go_wp2
 go_loopw [10] (fun x wr=>∃ k:Nat,k≤ws.length∧x= .int .i64 k∧Arr wr g (addK cur fr ws k)∧Only g w wr) (fun x _=>ws.length - (intOf x).toNat)
 case atStart=>exact ⟨0,by omega,rfl,HA.out,Only.refl _ _⟩
 case round=>
  obtain ⟨k,hk,rfl,har,hon⟩:=hrel
  by_cases hk':k < ws.length
  · obtain ⟨b,off,rfl,hb,hcell⟩:=hw.ints (by omega)
    have hbne:b≠g:=HBG.out _ _ rfl
    have y0:=(hon.cell (p:=⟨b,off+k,none⟩) hbne).trans (hcell k hk')
    have y1:=(hon.cell (p:=⟨sb,0,none⟩) hne).trans hs
    have y2:=har.cell (j:=fr+k) (by rw [Qdh];omega)
    rw [addK_later cur fr ws k _ (Nat.le_refl _)] at y2
    have y3:=har.free (fr+k)
    have q1:=HCB.out (fr+k)
    have q2:=HWB.out k
    have hnn:cur.length≤n:=by have:=HN.out;omega
    have HAR:=Lib.hid har
    have HON:=Lib.hid hon
    clear har hon hcell hs hw
    go_wp2
    go_roundw
    case rel=>exact ⟨k+1,by omega,by go_num,HAR.out.set _ _,HON.out.setCell _ _⟩
    case measure=>simp [intOf];omega
  · have e:k=ws.length:=by omega
    have E:=Lib.hid e
    clear e
    go_wp2
    go_end0
    exact ⟨rfl,by rw [←E.out];exact har,hon⟩
end Go.Proofs.YtdlmdaononclgaaGreatDoor
namespace Go.Proofs.YtdlmdaononclgaaGreatDoor
open Go.RowKit
set_option linter.unusedVariables false
set_option linter.unusedSimpArgs false
set_option maxHeartbeats 1000000 in
theorem rev3_any (g c:Nat) (x y z:Int) (w:World) (ha:Arr w g [x,y,z]):
  Calls Tryz.prog 73 #[.slice (some ⟨g,0,none⟩) 3 c] w fun e w'=>e= .returned (.tuple #[])∧Arr w' g [z,y,x]∧Only g w w':=by
 have y0:w.cell? ⟨g,0,none⟩=some (.int .i64 x):=ha.cell (j:=0) (by simp)
 have y2:w.cell? ⟨g,2,none⟩=some (.int .i64 z):=ha.cell (j:=2) (by simp)
 have f0:=ha.free 0
 have f2:=ha.free 2
 have HA:=Lib.hid ha
 clear ha
 go_enter Tryz.func73,Tryz.ntmps73
 go_wp2
 refine wp_loop_rounds 3 ?_
 rw [rounds_succ]
 go_wp2
 go_region
 all_goals go_wp2
 all_goals rw [rounds_succ]
 all_goals go_wp2
 all_goals go_end0
 exact ⟨rfl,(HA.out.set 0 z).set 2 x,(((Only.refl g w).setCell 0 _).setCell 2 _).drewN 1⟩
def zerosA (n:Nat):Array Value:=(ints (List.replicate n 0)).toArray
theorem zerosA_made (n:Nat):madeCells #[Value.int .i64 0] n=zerosA n:=by
 apply Array.ext
 ·simp [size_madeCells,zerosA,ints]
 ·intro i h1 h2
  simp [madeCells,zerosA,ints,Nat.mod_one]
theorem infoInt:(Tryz.prog.info? 3).map (fun i=>(i.zero,i.size,i.bytes))=some (some (.int .i64 0),1,8):=by kernel_rfl
theorem make_ints (n:Nat) (hn:n≤1000000) (W:World):(Instr.makeSlice 22 (.int .i64 (n:Int)) (.int .i64 (n:Int))).run Tryz.prog W= .ok (.slice (some ⟨W.heap.size,0,none⟩) n n) (W.alloc (.cells (zerosA n) 3)):=by
 obtain ⟨i0,hi,hz0,hz1,hz2⟩:=info_parts infoInt
 have:=run_make (P:=Tryz.prog) W 22 3 i0 (.int .i64 0) Tryz.underlying22 hi hz0 .i64 .i64 (n:Int) (n:Int) (by omega) (by omega) (by rw [hz2];omega) (by omega)
 rw [this,hz1]
 simp only [Int.toNat_natCast,Value.cells,Nat.mul_one,zerosA_made]
theorem Arr.zeros (W:World) (n:Nat):Arr (W.alloc (.cells (zerosA n) 3)) W.heap.size (List.replicate n 0):=heap_alloc_new W _
end Go.Proofs.YtdlmdaononclgaaGreatDoor
namespace Go.Proofs.YtdlmdaononclgaaGreatDoor
open Go.RowKit
set_option linter.unusedVariables false
set_option linter.unusedSimpArgs false
def grpW (d1 d2:Int):List Int:=
 if d1=d2 then [12 * d1,48 * d1,12 * d1] else if d2=2 * d1 then [0,81 * d1,27 * d1] else if d2=3 * d1 then [-24 * d1,128 * d1,40 * d1]
 else if d1=2 * d2 then [27 * d2,81 * d2,0] else [40 * d2,128 * d2, -24 * d2]
def dx (xs:List Int) (i:Nat):Int:=ix xs (i+1) - ix xs i
def addG (xs:List Int) (acc:List Int) (p:Int × Int):List Int:=
 if p.2=1 then addK acc p.1.toNat [18 * dx xs p.1.toNat,18 * dx xs p.1.toNat] 2
 else addK acc p.1.toNat (grpW (dx xs p.1.toNat) (dx xs (p.1.toNat+1))) 3
def wtAcc (xs:List Int) (i:Nat):List Int:=((Qaz xs).take i).foldl (addG xs) (List.replicate xs.length 0)
def Qab (xs:List Int):List Int:=wtAcc xs (Qaz xs).length
theorem wtAcc_zero (xs:List Int):wtAcc xs 0=List.replicate xs.length 0:=rfl
theorem Qca {xs:List Int} {i:Nat} {x:Int × Int} (h:(Qaz xs)[i]? =some x):wtAcc xs (i+1)=addG xs (wtAcc xs i) x:=by
 unfold wtAcc
 rw [List.take_add_one,h]
 simp [List.foldl_append]
theorem addG_length (xs acc:List Int) (p:Int × Int):(addG xs acc p).length=acc.length:=by
 unfold addG;split <;> rw [Qdh]
theorem Qbj (xs:List Int) (i:Nat):(wtAcc xs i).length=xs.length:=by
 unfold wtAcc
 generalize (Qaz xs).take i=l
 have:∀ (l:List (Int × Int)) (acc:List Int),acc.length=xs.length→(l.foldl (addG xs) acc).length=xs.length:=by
  intro l
  induction l with
  | nil=>intro acc h;exact h
  | cons p l ih=>intro acc h;exact ih _ (by rw [addG_length];exact h)
 exact this l _ (by simp)
theorem grp_mem {xs:List Int}:∀ (f i k:Nat) (x:Int × Int),(grp xs f i)[k]? =some x→∃ j:Nat,x=((j:Int),(manyN xs j:Int))∧j+1 < xs.length
 | 0,_,_,_,h=>by simp [grp] at h
 | f+1,i,k,x,h=>by
   rw [grp] at h
   split at h
   ·rename_i hi
    cases k with
    | zero=>simp at h;exact ⟨i,h.symm,hi⟩
    | succ k=>simp at h;exact grp_mem f _ k x h
   ·simp at h
theorem manyN_cases (xs:List Int) (j:Nat):manyN xs j=1∨(manyN xs j=2∧j+2 < xs.length∧pairB (dx xs j) (dx xs (j+1))=true):=by
 unfold manyN
 split
 ·rename_i h;exact .inr ⟨rfl,h.1,h.2⟩
 ·exact .inl rfl
theorem group_at {xs:List Int} {i:Nat} {x:Int × Int} (h:(Qaz xs)[i]? =some x):
  ∃ j:Nat,j+1 < xs.length∧((x=((j:Int),1)∧manyN xs j=1)∨(x=((j:Int),2)∧manyN xs j=2∧j+2 < xs.length∧pairB (dx xs j) (dx xs (j+1))=true)):=by
 obtain ⟨j,hx,hj⟩:=grp_mem _ _ _ _ h
 refine ⟨j,hj,?_⟩
 rcases manyN_cases xs j with h1 | ⟨h2,h3,h4⟩
 ·left;rw [h1] at hx;exact ⟨hx,h1⟩
 ·right;rw [h2] at hx;exact ⟨hx,h2,h3,h4⟩
theorem pair_cases {a b:Int} (ha:0 < a) (hb:0 < b) (h:pairB a b=true):(a=b∧Qat a b=1∧Qat b a=1)∨(b=2 * a∧Qat a b=2∧Qat b a=0)∨(b=3 * a∧Qat a b=3∧Qat b a=0)∨
  (a=2 * b∧Qat a b=0∧Qat b a=2)∨(a=3 * b∧Qat a b=0∧Qat b a=3):=by
 have key:∀ {a b:Int},0 < a→0 < b→0 < Qat a b→(b=a∧Qat a b=1)∨(b=2 * a∧Qat a b=2)∨(b=3 * a∧Qat a b=3):=by
  intro a b ha hb h
  unfold Qat at h ⊢
  split at h
  · rename_i hc
    rw [if_pos hc]
    have e:=Int.mul_ediv_add_emod b a
    rw [hc.1] at e
    have e3:=hc.2
    generalize b / a=q at *
    rcases (by omega:q=1∨q=2∨q=3) with rfl | rfl | rfl
    ·left;exact ⟨by omega,rfl⟩
    ·right;left;exact ⟨by omega,rfl⟩
    ·right;right;exact ⟨by omega,rfl⟩
  · omega
 have zero:∀ {a b:Int},0 < a→a < b→Qat b a=0:=by
  intro a b ha hab
  unfold Qat
  rw [Int.emod_eq_of_lt (by omega) hab,if_neg (by omega)]
 have one:∀ {a:Int},0 < a→Qat a a=1:=by
  intro a ha
  unfold Qat
  rw [Int.emod_self,Int.ediv_self (by omega),if_pos (by omega)]
 simp only [pairB,Bool.or_eq_true,decide_eq_true_eq] at h
 rcases h with h | h
 ·rcases key ha hb h with ⟨e,r⟩ | ⟨e,r⟩ | ⟨e,r⟩
  · subst e;exact .inl ⟨rfl,r,r⟩
  · exact .inr (.inl ⟨e,r,zero ha (by omega)⟩)
  · exact .inr (.inr (.inl ⟨e,r,zero ha (by omega)⟩))
 ·rcases key hb ha h with ⟨e,r⟩ | ⟨e,r⟩ | ⟨e,r⟩
  · subst e;exact .inl ⟨rfl,r,r⟩
  · exact .inr (.inr (.inr (.inl ⟨e,zero hb (by omega),r⟩)))
  · exact .inr (.inr (.inr (.inr ⟨e,zero hb (by omega),r⟩)))
theorem grpW_1 (a:Int):grpW a a=[12 * a,48 * a,12 * a]:=if_pos rfl
theorem grpW_2 {a:Int} (h:0 < a):grpW a (2 * a)=[0,81 * a,27 * a]:=by rw [grpW,if_neg (by omega),if_pos rfl]
theorem grpW_3 {a:Int} (h:0 < a):grpW a (3 * a)=[-24 * a,128 * a,40 * a]:=by rw [grpW,if_neg (by omega),if_neg (by omega),if_pos rfl]
theorem grpW_4 {a:Int} (h:0 < a):grpW (2 * a) a=[27 * a,81 * a,0]:=by rw [grpW,if_neg (by omega),if_neg (by omega),if_neg (by omega),if_pos rfl]
theorem grpW_5 {a:Int} (h:0 < a):grpW (3 * a) a=[40 * a,128 * a, -24 * a]:=by rw [grpW,if_neg (by omega),if_neg (by omega),if_neg (by omega),if_neg (by omega)]
theorem addK_ix (cur:List Int) (fr:Nat) (ws:List Int):∀ (k:Nat),fr+k≤cur.length→∀ j,ix (addK cur fr ws k) j=if fr≤j∧j < fr+k then ix cur j+ix ws (j - fr) else ix cur j
 | 0,_,j=>by rw [if_neg (by omega)];rfl
 | k+1,h,j=>by
   have ih:=addK_ix cur fr ws k (by omega) j
   rw [addK]
   by_cases e:j=fr+k
   ·subst e
    rw [if_pos (by omega),show fr+k - fr=k by omega]
    simp only [ix,List.getD]
    rw [List.getElem?_set_self (by rw [Qdh];omega)]
    rfl
   ·have:ix ((addK cur fr ws k).set (fr+k) (ix cur (fr+k)+ix ws k)) j=ix (addK cur fr ws k) j:=by
     simp only [ix,List.getD]
     rw [List.getElem?_set_ne (by omega)]
    rw [this,ih]
    by_cases hc:fr≤j∧j < fr+k
    ·rw [if_pos hc,if_pos (by omega)]
    ·rw [if_neg hc,if_neg (by omega)]
theorem ix_out {xs:List Int} {j:Nat} (h:xs.length≤j):ix xs j=0:=by simp [ix,List.getD,List.getElem?_eq_none h]
theorem ix_nil (j:Nat):ix [] j=0:=ix_out (Nat.zero_le _)
theorem ix3_bd {a b c M:Int} (ha: -M≤a∧a≤M) (hb: -M≤b∧b≤M) (hc: -M≤c∧c≤M) (hM:0≤M) (j:Nat): -M≤ix [a,b,c] j∧ix [a,b,c] j≤M:=by
 match j with
 | 0=>exact ha
 | 1=>exact hb
 | 2=>exact hc
 | j+3=>rw [ix_out (by simp)];omega
theorem ix2_bd {a b M:Int} (ha: -M≤a∧a≤M) (hb: -M≤b∧b≤M) (hM:0≤M) (j:Nat): -M≤ix [a,b] j∧ix [a,b] j≤M:=by
 match j with
 | 0=>exact ha
 | 1=>exact hb
 | j+2=>rw [ix_out (by simp)];omega
theorem grpW_bd {a b:Int} (ha:0 < a) (hb:0 < b) (ha1:a≤100000) (hb1:b≤100000) (h:pairB a b=true) (j:Nat): -20000000≤ix (grpW a b) j∧ix (grpW a b) j≤20000000:=by
 rcases pair_cases ha hb h with ⟨e,_⟩ | ⟨e,_⟩ | ⟨e,_⟩ | ⟨e,_⟩ | ⟨e,_⟩ <;> subst e
 ·rw [grpW_1];exact ix3_bd (by omega) (by omega) (by omega) (by omega) j
 ·rw [grpW_2 ha];exact ix3_bd (by omega) (by omega) (by omega) (by omega) j
 ·rw [grpW_3 ha];exact ix3_bd (by omega) (by omega) (by omega) (by omega) j
 ·rw [grpW_4 hb];exact ix3_bd (by omega) (by omega) (by omega) (by omega) j
 ·rw [grpW_5 hb];exact ix3_bd (by omega) (by omega) (by omega) (by omega) j
theorem wtAcc_bd {most:Int} {xs:List Int} (hP:OkP 9 most xs) (hm:most≤100000):∀ (i:Nat),i≤(Qaz xs).length→∀ j, -(20000000 * (i:Int))≤ix (wtAcc xs i) j∧ix (wtAcc xs i) j≤20000000 * (i:Int)
 | 0,_,j=>by
   rw [wtAcc_zero]
   have:ix (List.replicate xs.length 0) j=0:=by
    by_cases h:j < xs.length
    ·simp [ix,List.getD,List.getElem?_replicate,h]
    ·exact ix_out (by simp;omega)
   rw [this];omega
 | i+1,h,j=>by
   have ih:=wtAcc_bd hP hm i (by omega) j
   obtain ⟨x,hx⟩:∃ x,(Qaz xs)[i]? =some x:=⟨_,List.getElem?_eq_getElem (by omega)⟩
   rw [Qca hx]
   obtain ⟨k,hk,⟨rfl,_⟩ | ⟨rfl,_,hk2,hp⟩⟩:=group_at hx
   ·have d:=hP.dif k hk
    simp only [addG,if_true,Int.toNat_natCast]
    rw [addK_ix _ _ _ _ (by rw [Qbj];omega)]
    have b:=ix2_bd (a:=18 * dx xs k) (b:=18 * dx xs k) (M:=20000000) (by unfold dx;omega) (by unfold dx;omega) (by omega) (j - k)
    split <;> omega
   ·have d:=hP.dif k hk
    have d2:=hP.dif (k+1) (by omega)
    simp only [addG,Int.toNat_natCast]
    rw [if_neg (by omega),addK_ix _ _ _ _ (by rw [Qbj];omega)]
    have b:=grpW_bd (a:=dx xs k) (b:=dx xs (k+1)) (by unfold dx;omega) (by unfold dx;omega) (by unfold dx;omega) (by unfold dx;omega) hp (j - k)
    split <;> omega
theorem groups_length (xs:List Int):(Qaz xs).length≤xs.length:=by
 have:∀ f i,(grp xs f i).length≤f:=by
  intro f
  induction f with
  | zero=>intro i;simp [grp]
  | succ f ih=>intro i;rw [grp];split;(simp only [List.length_cons];have:=ih (i+manyN xs i);omega);simp
 exact this _ _
theorem Arr.rd {w:World} {g:Nat} {xs:List Int} (h:Arr w g xs):RD w (g+1) (some ⟨g,0,none⟩) (ints xs):=
 .inr ⟨g,0,rfl,by omega,fun j v hv=>by rw [Nat.zero_add,cell_of_row w g j _ _ _ h,List.getElem?_toArray];exact hv⟩
theorem Arr.built (W:World) (xs:List Int):Arr (W.alloc (.cells (ints xs).toArray 3)) W.heap.size xs:=heap_alloc_new W _
theorem Qcw {sb g n cap m:Nat} {cur:List Int} (ws:List Int) {fr:Nat} {A:Option Addr} {c B:Nat} {w:World} (hm:ws.length=m)
  (hs:w.cell? ⟨sb,0,none⟩=some (.slice (some ⟨g,0,none⟩) n cap)) (hn:n=cur.length) (hne:sb≠g) (hbg:∀ b off,A=some ⟨b,off,none⟩→b≠g)
  (ha:Arr w g cur) (hw:RD w B A (ints ws)) (hl:fr+ws.length≤cur.length) (hcl:cur.length≤9) (hcb:∀ j, -1000000000≤ix cur j∧ix cur j≤1000000000) (hwb:∀ j, -1000000000≤ix ws j∧ix ws j≤1000000000):
  Calls Tryz.prog 70 #[.pointer (some ⟨sb,0,none⟩),.int .i64 fr,.slice A m c] w fun e w'=>e= .returned (.tuple #[])∧Arr w' g (addK cur fr ws m)∧Only g w w':=by
 subst hm
 exact add_any sb g n cap cur ws fr A c B w hs hn hne hbg ha hw hl hcl hcb hwb
end Go.Proofs.YtdlmdaononclgaaGreatDoor
namespace Go.Proofs.YtdlmdaononclgaaGreatDoor
open Go.RowKit
set_option linter.unusedVariables false
set_option linter.unusedSimpArgs false
attribute [local go_sem] Oper.semAt_some
theorem Below.of_only {B g:Nat} {a w w':World} (h:Below B a w) (ho:Only g w w') (hg:B≤g):Below B a w':=
 h.trans ⟨ho.os,ho.tape,ho.output,by rw [ho.size];exact Nat.le_refl _,fun k hk=>ho.block k (by omega)⟩
theorem Qcv {W:World} {a:Addr} {v:Value} (h:W.cell? a=some v):∀ (k:Nat) (o:Obj),((W.drewN k).alloc o).cell? a=some v:=fun k o=>cell_later (w:=W) (by repeat' (first | (with_reducible exact Below.refl _ _) | (with_reducible assumption) | (refine Qa (by assumption) ?_ ?_) | (with_reducible refine Qaa ?_ _) | (with_reducible refine Below.drew ?_) | (with_reducible refine Below.alloc ?_ ?_ _) | (with_reducible refine Below.setCell ?_ ?_ _) | go_size)) h
structure WI (w:World) (xs:List Int) (A:Option Addr) (c:Nat) (i:Nat) (Y:Nat→Prop) (W:World):Prop where
 Y1:∀ k,Y k→k=w.heap.size+1
 Y0:Y (w.heap.size+1)
 size:w.heap.size+5≤W.heap.size
 below:Below w.heap.size w W
 box:W.cell? ⟨w.heap.size,0,none⟩=some (.slice A xs.length c)
 sum:W.cell? ⟨w.heap.size+1+1,0,none⟩=some (.slice (some ⟨w.heap.size+1,0,none⟩) xs.length xs.length)
 take:W.cell? ⟨w.heap.size+1+1+1,0,none⟩=some (.func (.func 70) #[.pointer (some ⟨w.heap.size+1+1,0,none⟩)] #[])
 arr:Arr W (w.heap.size+1) (wtAcc xs i)
theorem WI.keep {w:World} {xs:List Int} {A:Option Addr} {c i D:Nat} {Y:Nat→Prop} {W W':World} (h:WI w xs A c i Y W) (k:Keep D Y W W') (hD:w.heap.size+5≤D):WI w xs A c i Y W':=by
 have hs:=h.size
 exact ⟨h.Y1,h.Y0,by have:=k.size;omega,k.below (by omega) h.below (by omega),(k.cell (by show w.heap.size < _;omega) (.inl (by show w.heap.size < _;omega))).trans h.box,
  (k.cell (by show w.heap.size+1+1 < _;omega) (.inl (by show w.heap.size+1+1 < _;omega))).trans h.sum,
  (k.cell (by show w.heap.size+1+1+1 < _;omega) (.inl (by show w.heap.size+1+1+1 < _;omega))).trans h.take,
  h.arr.of_block (k.block _ (by omega) (.inl (by omega)))⟩
theorem WI.add {w:World} {xs:List Int} {A0:Option Addr} {c i:Nat} {Y:Nat→Prop} {W W2:World} (h:WI w xs A0 c i Y W) (hb:Below W.heap.size W W2) (ws:List Int) {fr m:Nat} (hm:ws.length=m)
  {A:Option Addr} {c' B:Nat} (hA:∀ b off,A=some ⟨b,off,none⟩→W.heap.size≤b) (hw:RD W2 B A (ints ws)) (hl:fr+m≤xs.length) (hcl:xs.length≤9)
  (hcb:∀ j, -1000000000≤ix (wtAcc xs i) j∧ix (wtAcc xs i) j≤1000000000) (hwb:∀ j, -1000000000≤ix ws j∧ix ws j≤1000000000) (hnext:wtAcc xs (i+1)=addK (wtAcc xs i) fr ws m):
  Calls Tryz.prog 70 #[.pointer (some ⟨w.heap.size+1+1,0,none⟩),.int .i64 fr,.slice A m c'] W2 fun e W'=>e= .returned (.tuple #[])∧WI w xs A0 c (i+1) Y W'∧Round Y Y W W':=by
 have hs:=h.size
 have hz:=hb.size
 refine (Qcw ws hm ((hb.cell (p:=⟨w.heap.size+1+1,0,none⟩) (by show w.heap.size+1+1 < _;omega)).trans h.sum) (cur:=wtAcc xs i) (Qbj xs i).symm (by omega) (fun b off e=>by have:=hA b off e;omega)
  (h.arr.of_block (hb.block _ (by omega))) hw (by rw [hm,Qbj];exact hl) (by rw [Qbj];exact hcl) hcb hwb).mono ?_
 rintro e W' ⟨rfl,ha,ho⟩
 have cellk:∀ k,k < w.heap.size+5→k≠w.heap.size+1→W'.cell? ⟨k,0,none⟩=W.cell? ⟨k,0,none⟩:=fun k hk hne=>
  (ho.cell (p:=⟨k,0,none⟩) hne).trans (hb.cell (p:=⟨k,0,none⟩) (by show k < _;omega))
 refine ⟨rfl,⟨h.Y1,h.Y0,by rw [ho.size];omega,?_,(cellk _ (by omega) (by omega)).trans h.box,(cellk _ (by omega) (by omega)).trans h.sum,(cellk _ (by omega) (by omega)).trans h.take,by rw [hnext];exact ha⟩,?_⟩
 ·refine h.below.trans ⟨ho.os.trans hb.os,ho.tape.trans hb.tape,ho.output.trans hb.output,by rw [ho.size];exact hz,fun k hk=>(ho.block k (by omega)).trans (hb.block k (by omega))⟩
 ·exact ⟨ho.os.trans hb.os,ho.tape.trans hb.tape,ho.output.trans hb.output,by rw [ho.size];exact hz,fun k hk hy=>(ho.block k (fun e=>hy (by rw [e];exact h.Y0))).trans (hb.block k hk),fun k hk=>.inl hk,fun k hk=>by rw [ho.size,h.Y1 k hk];omega⟩
def RetInts (ys:List Int) (w:World) (e:Ending) (w':World):Prop:=
 ∃ g,e= .returned (.slice (some ⟨g,0,none⟩) ys.length ys.length)∧w.heap.size≤g∧Arr w' g ys∧Below w.heap.size w w'
set_option maxHeartbeats 2000000 in
set_option maxRecDepth 100000 in
theorem Qdm (xs:List Int) (A:Option Addr) (c:Nat) (hP:OkP 9 100000 xs) (hc:xs.length≤c) (hm:c≤9223372036854775807) (w:World) (h:RD w w.heap.size A (ints xs)):
  Calls Tryz.prog 55 #[.slice A xs.length c] w (RetInts (Qab xs) w):=by
 have hmf:∀ (fn:Fn) (first cap:Array Value) (w:World),(Instr.makeFunc fn first cap).run Tryz.prog w= .ok (.func fn first cap) w:=fun _ _ _ _=>rfl
 have hlen:xs.length≤9:=by have:=hP.many;omega
 have hl2:=hP.two
 obtain ⟨b,off,rfl,hb,hcell⟩:=h.ints (by omega)
 have HC:=Lib.hid hcell
 clear hcell h
 have hmk:=make_ints xs.length (by omega)
 refine (callsIn_wide (n:=9)).1 ?_
 refine callsIn_of_wp_marks Tryz.func55 rfl trivial ?_ rfl
 simp only [Tryz.ntmps55,List.size_toArray,List.length_cons,List.length_nil,Nat.reduceAdd,Nat.reduceSub,Array.replicate_succ,Array.replicate_zero,List.push_toArray,List.append_toArray,List.nil_append,List.cons_append]
 gi_wp2_with (first | ((first | refine ⟨trivial,fun h=>Qah h,?_⟩ | refine ⟨trivial,?_⟩);gi_at_call 71;(with_reducible refine (callsIn_wide.2 (groups_any _ _ _ _)).mono ?_);rintro e w' ⟨rfl,rfl⟩))
 refine rangeY (F:=Fence.wide) (encs:=encG) (ys:=Qaz xs) (H:=HG (w.heap.size+1+1+1+1) xs (some ⟨b,off,none⟩) c) rfl (by omega) (gf:=87) (lb:= #[.pointer (some ⟨w.heap.size+1+1+1+1,0,none⟩)]) rfl trivial (enters_of Tryz.func87 (by kernel_rfl) rfl)
  (groups1_yields _ (w.heap.size+1+1+1+1) xs _ c hP hc hm) (fun _=>rfl)
  (WI w xs (some ⟨b,off,none⟩) c) (fun _ _ _ _=>False) (fun k=>k=w.heap.size+1) (fun k hk=>by subst hk;simp)
  (fun i Y A B h k=>h.keep k (by simp)) (fun _ _ _ _ _ h _=>h)
  ?start ?hH
  (fun x a' W=>∃ p,a'={tmps:= #[.slice (some ⟨b,off,none⟩) xs.length c,.pointer (some ⟨w.heap.size,0,none⟩),.slice none 0 0,.pointer (some ⟨w.heap.size+1+1,0,none⟩),.pointer (some ⟨w.heap.size+1+1+1,0,none⟩),.pointer (some ⟨p,0,none⟩),undef,undef,undef,undef,undef,.slice (some ⟨b,off,none⟩) xs.length c,.int .i64 xs.length,.slice (some ⟨w.heap.size+1,0,none⟩) xs.length xs.length,.agg #[.slice (some ⟨w.heap.size+1,0,none⟩) xs.length xs.length],.func (.func 70) #[.pointer (some ⟨w.heap.size+1+1,0,none⟩)] #[],.slice (some ⟨b,off,none⟩) xs.length c,.func (.func 87) #[] #[.pointer (some ⟨w.heap.size+1+1+1+1,0,none⟩)],.agg #[.int .i64 x.1,.int .i64 x.2],undef,undef,undef,undef,undef,undef,undef,undef,undef,undef,undef,undef,undef,undef,undef,undef,undef,undef,undef,undef,undef,undef,undef,undef,undef,undef,undef,undef,undef,undef,undef,undef,undef,undef,undef,undef,undef,undef,undef,undef,undef,undef,undef,undef,undef,undef,undef,undef,undef,undef,undef,undef,undef,undef,undef,undef,undef,undef,undef,undef,undef,undef,undef,undef,undef,undef,undef,undef,undef,undef,undef,undef,undef,undef,undef,undef,undef,undef,undef,undef,undef,undef,undef,undef],defers:=[]}∧w.heap.size+5≤p∧p < W.heap.size∧W.heap[p]? =some (.cells #[.int .i64 x.1,.int .i64 x.2] 110 (0,0)))
  ?hAx ?assign ?body ?done (fun _ _ _ _ h=>h.elim)
 case start=>
  refine ⟨fun k hk=>hk,rfl,by simp,by go_grown,by simp [go_sem],by simp [go_sem],by simp [go_sem],?_⟩
  rw [wtAcc_zero]
  have h0:=Arr.zeros (w.alloc (.cells #[.slice (some ⟨b,off,none⟩) xs.length c] 22)) xs.length
  rw [World.size_alloc] at h0
  refine h0.of_block (Below.block (B:=w.heap.size+2) ?_ _ (by omega))
  go_grown
 case hH=>
  intro W Z hB hZ
  have hs:=hB.size
  simp only [World.size_alloc] at hs
  refine ⟨?_,by omega,fun h=>by rcases hZ _ h with h | h <;> (try simp at h) <;> omega,b,off,rfl,by omega,fun h=>by rcases hZ _ h with h | h <;> (try simp at h) <;> omega,fun j hj=>?_⟩
  · rw [hB.cell (by simp)];simp [go_sem]
  · rw [hB.cell (by simp;omega)]
    rw [←HC.out j hj]
    refine Below.cell (B:=w.heap.size) (w:=w) (p:=⟨b,off+j,none⟩) ?_ hb
    go_grown
 case hAx=>
  rintro x a' A B ⟨p,rfl,h1,h2,h3⟩ hk
  have:=hk p h2 ⟨_,_,_,h3⟩
  exact ⟨p,rfl,h1,(Array.getElem?_eq_some_iff.1 (this.trans h3)).1,this.trans h3⟩
 case assign=>
  intro l i x Y W K hx hI hlt hK
  have hz:=hI.size
  have HK:=Lib.hid hK
  have HI:=Lib.hid hI
  clear hK hI hlt
  simp only [encG]
  gi_wp2
  exact HK.out _ _ (by go_grown) ⟨_,rfl,hz,by simp,heap_alloc_new W _⟩
 case body=>
  rintro l i x a' Y W hl ⟨r,hr⟩ hx hI hlt ⟨p,rfl,hp5,hpl,hp⟩
  obtain ⟨j,hj,hcase⟩:=group_at hx
  have hil:i < (Qaz xs).length:=(List.getElem?_eq_some_iff.1 hx).1
  have hgl:=groups_length xs
  have hbd:=wtAcc_bd hP (by omega) i (by omega)
  have HBD:=Lib.hid hbd
  have f0:=hP.lo j (by omega)
  have f1:=hP.dif j hj
  have g0:=hP.hi' j (by omega)
  have g1:=hP.hi' (j+1) (by omega)
  obtain ⟨d1,hd1⟩:∃ d,dx xs j=d:=⟨_,rfl⟩
  have hd1':ix xs (j+1) - ix xs j=d1:=hd1
  rw [hd1'] at f1
  obtain ⟨f11,f12⟩:=f1
  have e1:IntKind.i64.wrap (ix xs (j+1) - ix xs j)=d1:=by rw [hd1'];exact IntWalk.i64_in _ ⟨by omega,by omega⟩
  have y0:=(hI.below.cell (p:=⟨b,off+j,none⟩) hb).trans (HC.out j (by omega))
  have y1:=(hI.below.cell (p:=⟨b,off+(j+1),none⟩) hb).trans (HC.out (j+1) (by omega))
  have z0:=hI.box
  have z1:=hI.take
  have z2:=hI.sum
  have hsz:=hI.size
  have q3:w.heap.size+1+1+1 < W.heap.size:=by omega
  have HX:=Lib.hid hx
  have HI:=Lib.hid hI
  have HL:=Lib.hid hlt
  have HD1:=Lib.hid hd1
  clear hbd hx hlt hr hl hd1
  rcases hcase with ⟨rfl,hm1⟩ | ⟨rfl,hm2,hj2,hpair⟩
  · have p0:W.cell? ⟨p,0,none⟩=some (.int .i64 j):=by rw [cell_of_row W p 0 _ _ _ hp];rfl
    have p1:W.cell? ⟨p,1,none⟩=some (.int .i64 1):=by rw [cell_of_row W p 1 _ _ _ hp];rfl
    clear hm1 hp hI
    gi_wp2
    (refine Qaf _ (by kernel_rfl) (by kernel_rfl) (by kernel_rfl) ?_;(repeat gi_big_quiet_step (fail));refine wpQuietIn_nil ?_;intro _ hw';obtain ⟨nq,hw''⟩:=hw';subst hw'')
    gi_wp2_with fail
    refine ⟨trivial,?_⟩
    refine (CallsIn.inRound l (callsIn_wide.2 (HI.out.add (by repeat' (first | (with_reducible exact Below.refl _ _) | (with_reducible assumption) | (refine Qa (by assumption) ?_ ?_) | (with_reducible refine Qaa ?_ _) | (with_reducible refine Below.drew ?_) | (with_reducible refine Below.alloc ?_ ?_ _) | (with_reducible refine Below.setCell ?_ ?_ _) | go_size)) [18 * d1,18 * d1] (m:=2) rfl ?a1 (Arr.built (W.drewN nq) [18 * d1,18 * d1]).rd (by omega) hlen ?a3 ?a4 ?a5))).mono ?_
    case a1=>intro b' off' e;cases e;exact Nat.le_refl _
    case a3=>intro j;have:=HBD.out j;omega
    case a4=>exact fun j=>ix2_bd (by omega) (by omega) (by omega) j
    case a5=>rw [Qca HX.out];simp only [addG,if_true,Int.toNat_natCast,HD1.out]
    rintro e W3 ⟨rfl,hI',hR'⟩
    have HI':=Lib.hid hI'
    have HR':=Lib.hid hR'
    clear hI' hR'
    gi_wp2
    exact ⟨Y,HI'.out,HR'.out⟩
  · have p0:W.cell? ⟨p,0,none⟩=some (.int .i64 j):=by rw [cell_of_row W p 0 _ _ _ hp];rfl
    have p1:W.cell? ⟨p,1,none⟩=some (.int .i64 2):=by rw [cell_of_row W p 1 _ _ _ hp];rfl
    have f2:=hP.dif (j+1) (by omega)
    have g2:=hP.hi' (j+2) (by omega)
    rw [show j+1+1=j+2 from rfl] at f2
    obtain ⟨d2,hd2⟩:∃ d,dx xs (j+1)=d:=⟨_,rfl⟩
    have hd2':ix xs (j+2) - ix xs (j+1)=d2:=hd2
    rw [hd2'] at f2
    obtain ⟨f21,f22⟩:=f2
    have e2:IntKind.i64.wrap (ix xs (j+2) - ix xs (j+1))=d2:=by rw [hd2'];exact IntWalk.i64_in _ ⟨by omega,by omega⟩
    have y2:=(hI.below.cell (p:=⟨b,off+(j+2),none⟩) hb).trans (HC.out (j+2) (by omega))
    have HD2:=Lib.hid hd2
    rw [HD1.out,hd2] at hpair
    have hbdw:=grpW_bd f11 f21 f12 f22 hpair
    have HBW:=Lib.hid hbdw
    clear hm2 hp hd2 hbdw hI
    rcases pair_cases f11 f21 hpair with ⟨e,r1,r2⟩ | ⟨e,r1,r2⟩ | ⟨e,r1,r2⟩ | ⟨e,r1,r2⟩ | ⟨e,r1,r2⟩
    · subst e
      have t1:=Qcv z1
      have t0:=Qcv p0
      have HR1:=Lib.hid r1
      have HR2:=Lib.hid r2
      clear r1 r2 hpair
      gi_wp2
      (refine Qaf _ (by kernel_rfl) (by kernel_rfl) (by kernel_rfl) ?_;(repeat gi_big_quiet_step (fail));refine wpQuietIn_nil ?_;intro _ hw';obtain ⟨nq,hw''⟩:=hw';subst hw'')
      gi_wp2
      (refine Qaf _ (by kernel_rfl) (by kernel_rfl) (by kernel_rfl) ?_;(repeat gi_big_quiet_step (fail));refine wpQuietIn_nil ?_;intro _ hw';obtain ⟨nq,hw''⟩:=hw';subst hw'')
      gi_wp2_with (first | ((first | refine ⟨trivial,fun h=>Qah h,?_⟩ | refine ⟨trivial,?_⟩);gi_at_call 72;(with_reducible refine (CallsIn.inRound _ (callsIn_wide.2 (Qcb HR1.out (by omega) (by omega) (by omega) (by omega) _))).mono ?_);rintro e w' ⟨rfl,rfl⟩) | ((first | refine ⟨trivial,fun h=>Qah h,?_⟩ | refine ⟨trivial,?_⟩);gi_at_call 72;(with_reducible refine (CallsIn.inRound _ (callsIn_wide.2 (Qcb HR2.out (by omega) (by omega) (by omega) (by omega) _))).mono ?_);rintro e w' ⟨rfl,rfl⟩))
      have hgw:grpW d1 d1=[12 * d1,12 * d1 * 2 * 2,12 * d1]:=by rw [grpW_1];simp only [List.cons.injEq,and_true,true_and];omega
      refine ⟨trivial,?_⟩
      refine (CallsIn.inRound l (callsIn_wide.2 (HI.out.add (by repeat' (first | (with_reducible exact Below.refl _ _) | (with_reducible assumption) | (refine Qa (by assumption) ?_ ?_) | (with_reducible refine Qaa ?_ _) | (with_reducible refine Below.drew ?_) | (with_reducible refine Below.alloc ?_ ?_ _) | (with_reducible refine Below.setCell ?_ ?_ _) | go_size)) (grpW d1 d1) (m:=3) (by rw [hgw];rfl) ?a1 (by rw [hgw];exact (Arr.built _ _).rd) (by omega) hlen ?a3 ?a4 ?a5))).mono ?_
      case a1=>intro b' off' e;cases e;exact Nat.le_refl _
      case a3=>intro j;have:=HBD.out j;omega
      case a4=>intro j;have:=HBW.out j;omega
      case a5=>rw [Qca HX.out];simp only [addG,Int.toNat_natCast,HD1.out,HD2.out];rw [if_neg (by omega)]
      rintro e W4 ⟨rfl,hI',hR'⟩
      have HI':=Lib.hid hI'
      have HR':=Lib.hid hR'
      clear hI' hR' hgw
      gi_wp2
      exact ⟨Y,HI'.out,HR'.out⟩
    · subst e
      have t1:=Qcv z1
      have t0:=Qcv p0
      have hmin:min d1 (2 * d1)=d1:=by omega
      have HR1:=Lib.hid r1
      have HR2:=Lib.hid r2
      clear r1 r2 hpair
      gi_wp2
      (refine Qaf _ (by kernel_rfl) (by kernel_rfl) (by kernel_rfl) ?_;(repeat gi_big_quiet_step (fail));refine wpQuietIn_nil ?_;intro _ hw';obtain ⟨nq,hw''⟩:=hw';subst hw'')
      gi_wp2
      (refine Qaf _ (by kernel_rfl) (by kernel_rfl) (by kernel_rfl) ?_;(repeat gi_big_quiet_step (fail));refine wpQuietIn_nil ?_;intro _ hw';obtain ⟨nq,hw''⟩:=hw';subst hw'')
      gi_wp2_with (first | ((first | refine ⟨trivial,fun h=>Qah h,?_⟩ | refine ⟨trivial,?_⟩);gi_at_call 72;(with_reducible refine (CallsIn.inRound _ (callsIn_wide.2 (Qcb HR1.out (by omega) (by omega) (by omega) (by omega) _))).mono ?_);rintro e w' ⟨rfl,rfl⟩) | ((first | refine ⟨trivial,fun h=>Qah h,?_⟩ | refine ⟨trivial,?_⟩);gi_at_call 72;(with_reducible refine (CallsIn.inRound _ (callsIn_wide.2 (Qcb HR2.out (by omega) (by omega) (by omega) (by omega) _))).mono ?_);rintro e w' ⟨rfl,rfl⟩))
      have hgw:grpW d1 (2 * d1)=[0,9 * d1 * 3 * 3,9 * d1 * 3]:=by rw [grpW_2 f11];simp only [List.cons.injEq,and_true,true_and];omega
      refine ⟨trivial,?_⟩
      refine (CallsIn.inRound l (callsIn_wide.2 (HI.out.add (by repeat' (first | (with_reducible exact Below.refl _ _) | (with_reducible assumption) | (refine Qa (by assumption) ?_ ?_) | (with_reducible refine Qaa ?_ _) | (with_reducible refine Below.drew ?_) | (with_reducible refine Below.alloc ?_ ?_ _) | (with_reducible refine Below.setCell ?_ ?_ _) | go_size)) (grpW d1 (2 * d1)) (m:=3) (by rw [hgw];rfl) ?a1 (by rw [hgw];exact (Arr.built _ _).rd) (by omega) hlen ?a3 ?a4 ?a5))).mono ?_
      case a1=>intro b' off' e;cases e;exact Nat.le_refl _
      case a3=>intro j;have:=HBD.out j;omega
      case a4=>intro j;have:=HBW.out j;omega
      case a5=>rw [Qca HX.out];simp only [addG,Int.toNat_natCast,HD1.out,HD2.out];rw [if_neg (by omega)]
      rintro e W4 ⟨rfl,hI',hR'⟩
      have HI':=Lib.hid hI'
      have HR':=Lib.hid hR'
      clear hI' hR' hgw
      gi_wp2
      exact ⟨Y,HI'.out,HR'.out⟩
    · subst e
      have t1:=Qcv z1
      have t0:=Qcv p0
      have hmin:min d1 (3 * d1)=d1:=by omega
      have HR1:=Lib.hid r1
      have HR2:=Lib.hid r2
      clear r1 r2 hpair
      gi_wp2
      (refine Qaf _ (by kernel_rfl) (by kernel_rfl) (by kernel_rfl) ?_;(repeat gi_big_quiet_step (fail));refine wpQuietIn_nil ?_;intro _ hw';obtain ⟨nq,hw''⟩:=hw';subst hw'')
      gi_wp2
      (refine Qaf _ (by kernel_rfl) (by kernel_rfl) (by kernel_rfl) ?_;(repeat gi_big_quiet_step (fail));refine wpQuietIn_nil ?_;intro _ hw';obtain ⟨nq,hw''⟩:=hw';subst hw'')
      gi_wp2_with (first | ((first | refine ⟨trivial,fun h=>Qah h,?_⟩ | refine ⟨trivial,?_⟩);gi_at_call 72;(with_reducible refine (CallsIn.inRound _ (callsIn_wide.2 (Qcb HR1.out (by omega) (by omega) (by omega) (by omega) _))).mono ?_);rintro e w' ⟨rfl,rfl⟩) | ((first | refine ⟨trivial,fun h=>Qah h,?_⟩ | refine ⟨trivial,?_⟩);gi_at_call 72;(with_reducible refine (CallsIn.inRound _ (callsIn_wide.2 (Qcb HR2.out (by omega) (by omega) (by omega) (by omega) _))).mono ?_);rintro e w' ⟨rfl,rfl⟩))
      have hgw:grpW d1 (3 * d1)=[-(8 * d1 * 3),8 * d1 * 4 * 4,8 * d1 * 5]:=by rw [grpW_3 f11];simp only [List.cons.injEq,and_true,true_and];omega
      refine ⟨trivial,?_⟩
      refine (CallsIn.inRound l (callsIn_wide.2 (HI.out.add (by repeat' (first | (with_reducible exact Below.refl _ _) | (with_reducible assumption) | (refine Qa (by assumption) ?_ ?_) | (with_reducible refine Qaa ?_ _) | (with_reducible refine Below.drew ?_) | (with_reducible refine Below.alloc ?_ ?_ _) | (with_reducible refine Below.setCell ?_ ?_ _) | go_size)) (grpW d1 (3 * d1)) (m:=3) (by rw [hgw];rfl) ?a1 (by rw [hgw];exact (Arr.built _ _).rd) (by omega) hlen ?a3 ?a4 ?a5))).mono ?_
      case a1=>intro b' off' e;cases e;exact Nat.le_refl _
      case a3=>intro j;have:=HBD.out j;omega
      case a4=>intro j;have:=HBW.out j;omega
      case a5=>rw [Qca HX.out];simp only [addG,Int.toNat_natCast,HD1.out,HD2.out];rw [if_neg (by omega)]
      rintro e W4 ⟨rfl,hI',hR'⟩
      have HI':=Lib.hid hI'
      have HR':=Lib.hid hR'
      clear hI' hR' hgw
      gi_wp2
      exact ⟨Y,HI'.out,HR'.out⟩
    · subst e
      have t1:=Qcv z1
      have t0:=Qcv p0
      have hmin:min (2 * d2) d2=d2:=by omega
      have HR1:=Lib.hid r1
      have HR2:=Lib.hid r2
      clear r1 r2 hpair
      gi_wp2
      (refine Qaf _ (by kernel_rfl) (by kernel_rfl) (by kernel_rfl) ?_;(repeat gi_big_quiet_step (fail));refine wpQuietIn_nil ?_;intro _ hw';obtain ⟨nq,hw''⟩:=hw';subst hw'')
      gi_wp2
      (refine Qaf _ (by kernel_rfl) (by kernel_rfl) (by kernel_rfl) ?_;(repeat gi_big_quiet_step (fail));refine wpQuietIn_nil ?_;intro _ hw';obtain ⟨nq,hw''⟩:=hw';subst hw'')
      gi_wp2_with (first | ((first | refine ⟨trivial,fun h=>Qah h,?_⟩ | refine ⟨trivial,?_⟩);gi_at_call 72;(with_reducible refine (CallsIn.inRound _ (callsIn_wide.2 (Qcb HR1.out (by omega) (by omega) (by omega) (by omega) _))).mono ?_);rintro e w' ⟨rfl,rfl⟩) | ((first | refine ⟨trivial,fun h=>Qah h,?_⟩ | refine ⟨trivial,?_⟩);gi_at_call 72;(with_reducible refine (CallsIn.inRound _ (callsIn_wide.2 (Qcb HR2.out (by omega) (by omega) (by omega) (by omega) _))).mono ?_);rintro e w' ⟨rfl,rfl⟩))
      refine ⟨trivial,?_⟩
      refine (CallsIn.inRound l (callsIn_wide.2 (rev3_any _ _ _ _ _ _ (Arr.built _ [0,9 * d2 * 3 * 3,9 * d2 * 3])))).mono ?_
      rintro e W3 ⟨rfl,ha3,ho3⟩
      have hb3:Below W.heap.size W W3:=Below.of_only (by repeat' (first | (with_reducible exact Below.refl _ _) | (with_reducible assumption) | (refine Qa (by assumption) ?_ ?_) | (with_reducible refine Qaa ?_ _) | (with_reducible refine Below.drew ?_) | (with_reducible refine Below.alloc ?_ ?_ _) | (with_reducible refine Below.setCell ?_ ?_ _) | go_size)) ho3 (Nat.le_refl _)
      have t1':=cell_later hb3 z1
      have t0':=cell_later hb3 p0
      have HA3:=Lib.hid ha3
      have HB3:=Lib.hid hb3
      clear ha3 hb3 ho3 t1 t0
      gi_wp2_with fail
      have hgw:grpW (2 * d2) d2=[9 * d2 * 3,9 * d2 * 3 * 3,0]:=by rw [grpW_4 f21];simp only [List.cons.injEq,and_true,true_and];omega
      refine ⟨trivial,?_⟩
      refine (CallsIn.inRound l (callsIn_wide.2 (HI.out.add HB3.out (grpW (2 * d2) d2) (m:=3) (by rw [hgw];rfl) ?a1 (by rw [hgw];exact HA3.out.rd) (by omega) hlen ?a3 ?a4 ?a5))).mono ?_
      case a1=>intro b' off' e;cases e;exact Nat.le_refl _
      case a3=>intro j;have:=HBD.out j;omega
      case a4=>intro j;have:=HBW.out j;omega
      case a5=>rw [Qca HX.out];simp only [addG,Int.toNat_natCast,HD1.out,HD2.out];rw [if_neg (by omega)]
      rintro e W4 ⟨rfl,hI',hR'⟩
      have HI':=Lib.hid hI'
      have HR':=Lib.hid hR'
      clear hI' hR' hgw
      gi_wp2
      exact ⟨Y,HI'.out,HR'.out⟩
    · subst e
      have t1:=Qcv z1
      have t0:=Qcv p0
      have hmin:min (3 * d2) d2=d2:=by omega
      have HR1:=Lib.hid r1
      have HR2:=Lib.hid r2
      clear r1 r2 hpair
      gi_wp2
      (refine Qaf _ (by kernel_rfl) (by kernel_rfl) (by kernel_rfl) ?_;(repeat gi_big_quiet_step (fail));refine wpQuietIn_nil ?_;intro _ hw';obtain ⟨nq,hw''⟩:=hw';subst hw'')
      gi_wp2
      (refine Qaf _ (by kernel_rfl) (by kernel_rfl) (by kernel_rfl) ?_;(repeat gi_big_quiet_step (fail));refine wpQuietIn_nil ?_;intro _ hw';obtain ⟨nq,hw''⟩:=hw';subst hw'')
      gi_wp2_with (first | ((first | refine ⟨trivial,fun h=>Qah h,?_⟩ | refine ⟨trivial,?_⟩);gi_at_call 72;(with_reducible refine (CallsIn.inRound _ (callsIn_wide.2 (Qcb HR1.out (by omega) (by omega) (by omega) (by omega) _))).mono ?_);rintro e w' ⟨rfl,rfl⟩) | ((first | refine ⟨trivial,fun h=>Qah h,?_⟩ | refine ⟨trivial,?_⟩);gi_at_call 72;(with_reducible refine (CallsIn.inRound _ (callsIn_wide.2 (Qcb HR2.out (by omega) (by omega) (by omega) (by omega) _))).mono ?_);rintro e w' ⟨rfl,rfl⟩))
      refine ⟨trivial,?_⟩
      refine (CallsIn.inRound l (callsIn_wide.2 (rev3_any _ _ _ _ _ _ (Arr.built _ [-(8 * d2 * 3),8 * d2 * 4 * 4,8 * d2 * 5])))).mono ?_
      rintro e W3 ⟨rfl,ha3,ho3⟩
      have hb3:Below W.heap.size W W3:=Below.of_only (by repeat' (first | (with_reducible exact Below.refl _ _) | (with_reducible assumption) | (refine Qa (by assumption) ?_ ?_) | (with_reducible refine Qaa ?_ _) | (with_reducible refine Below.drew ?_) | (with_reducible refine Below.alloc ?_ ?_ _) | (with_reducible refine Below.setCell ?_ ?_ _) | go_size)) ho3 (Nat.le_refl _)
      have t1':=cell_later hb3 z1
      have t0':=cell_later hb3 p0
      have HA3:=Lib.hid ha3
      have HB3:=Lib.hid hb3
      clear ha3 hb3 ho3 t1 t0
      gi_wp2_with fail
      have hgw:grpW (3 * d2) d2=[8 * d2 * 5,8 * d2 * 4 * 4, -(8 * d2 * 3)]:=by rw [grpW_5 f21];simp only [List.cons.injEq,and_true,true_and];omega
      refine ⟨trivial,?_⟩
      refine (CallsIn.inRound l (callsIn_wide.2 (HI.out.add HB3.out (grpW (3 * d2) d2) (m:=3) (by rw [hgw];rfl) ?a1 (by rw [hgw];exact HA3.out.rd) (by omega) hlen ?a3 ?a4 ?a5))).mono ?_
      case a1=>intro b' off' e;cases e;exact Nat.le_refl _
      case a3=>intro j;have:=HBD.out j;omega
      case a4=>intro j;have:=HBW.out j;omega
      case a5=>rw [Qca HX.out];simp only [addG,Int.toNat_natCast,HD1.out,HD2.out];rw [if_neg (by omega)]
      rintro e W4 ⟨rfl,hI',hR'⟩
      have HI':=Lib.hid hI'
      have HR':=Lib.hid hR'
      clear hI' hR' hgw
      gi_wp2
      exact ⟨Y,HI'.out,HR'.out⟩
 case done=>
  intro Y W hI hD
  have hsum:=hI.sum
  have HI:=Lib.hid hI
  have HD:=Lib.hid hD
  clear hI hD
  gi_wp2
  refine ⟨by simp,.inl ⟨_,_,rfl,run_takeDeferred HD.out,?_⟩⟩
  have k:=HI.out.keep ((Keep.refl (w.heap.size+5) Y W).putObj (l:=w.heap.size+5) (by omega) (fun h=>by have:=HI.out.Y1 _ h;omega) (.deferred none)) (by omega)
  have e:(Qab xs).length=xs.length:=Qbj xs _
  simp only [World.size_alloc]
  refine ⟨_,results_tmp rfl _ _ _,w.heap.size+1,by rw [e];rfl,by omega,?_,?_⟩
  · exact k.arr
  · exact k.below
end Go.Proofs.YtdlmdaononclgaaGreatDoor
namespace Go.Proofs.YtdlmdaononclgaaGreatDoor
open Go.RowKit
set_option linter.unusedVariables false
set_option linter.unusedSimpArgs false
def OwnI (w:World) (base:Nat) (v:Value) (xs:List Int):Prop:=w.ownsRow base 3 1 v xs.length (ints xs)
theorem OwnI.nil (w:World) (base:Nat):OwnI w base (.slice none 0 0) []:=World.ownsRow_nil w base _ _
theorem OwnI.form {w:World} {base:Nat} {v:Value} {xs:List Int} (h:OwnI w base v xs):
  ∃ A cap,v= .slice A xs.length cap∧xs.length≤cap∧cap≤9223372036854775807∧RD w w.heap.size A (ints xs)∧(∀ b off,A=some ⟨b,off,none⟩→base≤b∧v.ownBlock=some b)∧(∀ b,v.ownBlock=some b→base≤b∧b < w.heap.size):=by
 rcases h.2 with ⟨rfl,hn⟩ | ⟨g,cap,cur,rfl,hb,hg,hn,hm,hs,ht⟩
 ·have:xs=[]:=List.eq_nil_of_length_eq_zero hn
  subst this
  exact ⟨none,0,rfl,by simp,by omega,.inl rfl,(fun b off e=>by cases e),(fun b e=>by cases e)⟩
 ·have hlt:g < w.heap.size:=(Array.getElem?_eq_some_iff.1 hg).1
  refine ⟨some ⟨g,0,none⟩,cap,rfl,hn,by unfold maxLen at hm;omega,?_,(fun b off e=>by cases e;exact ⟨hb,rfl⟩),(fun b e=>by simp only [Value.ownBlock,Option.some.injEq] at e;omega)⟩
  by_cases h0:xs.length=0
  ·left;have:xs=[]:=List.eq_nil_of_length_eq_zero h0;subst this;rfl
  ·refine .inr ⟨g,0,rfl,hlt,fun j v hv=>?_⟩
   have:=h.cells (g:=g) rfl j v hv
   rwa [Addr.add_lit] at this
theorem OwnI.kept {w w':World} {base:Nat} {v:Value} {xs:List Int} (h:OwnI w base v xs) {B:Nat} (hb:Below B w w') (hB:w.heap.size≤B):OwnI w' base v xs:=by
 refine ⟨h.1,?_⟩
 rcases h.2 with hn | ⟨g,cap,cur,rfl,h1,hg,rest⟩
 ·exact .inl hn
 ·exact .inr ⟨g,cap,cur,rfl,h1,(hb.block g (by have:=(Array.getElem?_eq_some_iff.1 hg).1;omega)).trans hg,rest⟩
theorem Qba (w:World) (v:Value) (t:TypeId):(w.alloc (.cells #[v] t)).cell? ⟨w.heap.size,0,none⟩=some v:=by
 rw [cell_of_row _ w.heap.size 0 _ _ _ (heap_alloc_new w _)];rfl
theorem Qcx {w0 wr w1:World} {v:Value} {xs:List Int} {o:Obj} (hB:Below w0.heap.size w0 wr) (ho:OwnI wr w0.heap.size v xs) (hg:(wr.alloc o).grownBy w1 v.ownBlock):Below w0.heap.size w0 w1:=by
 obtain ⟨A,cap,rfl,_,_,_,_,h⟩:=ho.form
 exact (hB.alloc hB.size o).grown hg (by have:=hB.size;simp;omega) (fun k e=>(h k e).1)
variable {w:World}
theorem Qbz {ops:Array Oper} {rest:List Oper} {o:Oper} {a:Act} {Q:Exit→Act→World→Prop} (hgd:o.guard=none) (s x:Operand)
  (ho:o.op= .call {callee:=.builtin .append,args:= #[s,x],argTypes:= #[22,22]})
  (base:Nat) (v:Value) (xs:List Int) (hs:a.eval s=v) (hown:OwnI w base v xs) (g c:Nat) (y:Int) (hx:a.eval x= .slice (some ⟨g,0,none⟩) 1 c) (hc:w.cell? ⟨g,0,none⟩=some (.int .i64 y))
  (hlen:xs.length≤1000000) (hbase:base≤w.heap.size)
  (h:∀ v' w',OwnI w' base v' (xs ++ [y])→w.grownBy w' v.ownBlock→wpList Tryz.prog ops Q rest (a.put o.dst v') w'):wpList Tryz.prog ops Q (o :: rest) a w:=by
 obtain ⟨i0,hi,hz0,hz1,hz2⟩:=info_parts infoInt
 refine wpList_plain hgd fun K hK=>?_
 obtain ⟨v',w',hrun,h2,h3,_⟩:=run_append_own (P:=Tryz.prog) w base 22 o.type 3 i0 (.int .i64 0) 1 8 Tryz.underlying22 hi hz0 hz1 hz2 rfl (by decide) v xs.length (ints xs) hown
  ⟨g,0,none⟩ 1 c [.int .i64 y] rfl (fun j u hu=>by
    match j,hu with
    | 0,hu=>simp at hu;subst hu;exact hc) (by simp [Value.oneCell']) (by unfold maxLen;omega) (by omega) hbase
 unfold Oper.wp execOp
 simp only [ho,resolve,invoke,builtin,Sem.run_bind,Sem.run_pure,Result.andThen_ok,List.map_toArray,List.map_cons,List.map_nil,hs,hx,hrun]
 refine hK _ _ (h v' w' ?_ h3)
 unfold OwnI
 rw [List.length_append]
 simpa [ints] using h2
end Go.Proofs.YtdlmdaononclgaaGreatDoor
namespace Go.Proofs.YtdlmdaononclgaaGreatDoor
open Go.RowKit
set_option linter.unusedVariables false
set_option linter.unusedSimpArgs false
def dotK (ws ys:List Int):Nat→Int
 | 0=>0
 | k+1=>dotK ws ys k+ix ws k * ix ys k
theorem mulbd {x y M N:Int} (a: -M≤x∧x≤M) (b: -N≤y∧y≤N) (hM:0≤M) (hN:0≤N): -(M * N)≤x * y∧x * y≤M * N:=by
 have h:(x * y).natAbs≤M.natAbs * N.natAbs:=by rw [Int.natAbs_mul];exact Nat.mul_le_mul (by omega) (by omega)
 have e:((M.natAbs * N.natAbs:Nat):Int)=M * N:=by rw [Int.natCast_mul];congr 1 <;> omega
 omega
theorem dotK_bd {ws ys:List Int} {M:Int} (hM:0≤M) (h:∀ k, -M≤ix ws k * ix ys k∧ix ws k * ix ys k≤M):∀ k:Nat, -(M * k)≤dotK ws ys k∧dotK ws ys k≤M * k
 | 0=>by simp [dotK]
 | k+1=>by
   have a:=dotK_bd hM h k
   have b:=h k
   rw [dotK,show ((k+1:Nat):Int)=(k:Int)+1 by omega,Int.mul_add]
   omega
theorem Qbe (xs:List Int):(Qab xs).length=xs.length:=Qbj xs _
theorem weightsZ_bd {most:Int} {xs:List Int} (hP:OkP 9 most xs) (hm:most≤100000) (j:Nat): -180000000≤ix (Qab xs) j∧ix (Qab xs) j≤180000000:=by
 have a:=wtAcc_bd hP hm _ (Nat.le_refl _) j
 have b:=groups_length xs
 have c:=hP.many
 unfold Qab
 omega
set_option maxHeartbeats 1000000 in
theorem area_any (xs ys:List Int) (A:Option Addr) (c:Nat) (A2:Option Addr) (c2:Nat) (hP:OkP 9 100000 xs) (hc:xs.length≤c) (hm:c≤9223372036854775807) (w:World) (h:RD w w.heap.size A (ints xs))
  (hl:ys.length=xs.length) (hc2:ys.length≤c2) (hy:∀ j, -2000000000≤ix ys j∧ix ys j≤2000000000) (h2:RD w w.heap.size A2 (ints ys)):
  Calls Tryz.prog 75 #[.slice A xs.length c,.slice A2 ys.length c2] w fun e w'=>e= .returned (.int .i64 (dotK (Qab xs) ys xs.length))∧Below w.heap.size w w':=by
 have HL:=Lib.hid hl
 have hn9:=hP.many
 have hn2:=hP.two
 have hp:=fun k=>mulbd (weightsZ_bd hP (by omega) k) (hy k) (by omega) (by omega)
 have hd:=dotK_bd (ws:=Qab xs) (ys:=ys) (M:=180000000 * 2000000000) (by omega) hp
 have HPB:=Lib.hid hp
 have HDB:=Lib.hid hd
 have HW:=Lib.hid (Qbe xs)
 have hle:xs.length≤ys.length:=by omega
 clear hl hp hd hy
 go_enter Tryz.func75,Tryz.ntmps75
 go_wp2_with (go_at_call 55;(with_reducible refine (Qdm xs A c hP hc hm _ h).mono ?_);rintro e w1 ⟨g,rfl,hg,har,hb1⟩)
 have hwl:(Qab xs).length≤9:=by have:=HW.out;omega
 have HAR:=Lib.hid har
 have HB1:=Lib.hid hb1
 clear har hb1
 go_wp2
 go_loop [5,11] (fun s x=>∃ k:Nat,k≤(Qab xs).length∧x= .int .i64 k∧s= .int .i64 (dotK (Qab xs) ys k)) (fun _ x=>(Qab xs).length - (intOf x).toNat)
 case atStart=>exact ⟨0,by omega,rfl,rfl⟩
 case round=>
  obtain ⟨k,hk,rfl,rfl⟩:=hrel
  by_cases hk':k < (Qab xs).length
  · have hky:k < ys.length:=by have:=HW.out;omega
    obtain ⟨b2,off2,rfl,hb2,hcell2⟩:=h2.ints (by omega)
    have y0:=HAR.out.cell hk'
    have y1:=(HB1.out.cell (p:=⟨b2,off2+k,none⟩) hb2).trans (hcell2 k hky)
    obtain ⟨p0,p1⟩:=HPB.out k
    obtain ⟨q0,q1⟩:=HDB.out k
    have q2: -3240000000000000000≤dotK (Qab xs) ys k:=by omega
    have q3:dotK (Qab xs) ys k≤3240000000000000000:=by omega
    clear hcell2 h h2 q0 q1
    go_wp2
    go_round
    case rel=>exact ⟨k+1,by omega,by go_num,rfl⟩
    case measure=>simp [intOf];omega
  · go_wp2
    go_ret
    have e:k=xs.length:=by have:=HW.out;omega
    exact ⟨by rw [←e];rfl,HB1.out⟩
end Go.Proofs.YtdlmdaononclgaaGreatDoor
namespace Go.Proofs.YtdlmdaononclgaaGreatDoor
open Go.RowKit
set_option linter.unusedVariables false
set_option linter.unusedSimpArgs false
def momL (xs ys:List Int) (about:Int) (k:Nat):List Int:=(List.range k).map fun j=>ix ys j * (ix xs j - about)
theorem Qdo (xs ys:List Int) (about:Int) (k:Nat):(momL xs ys about k).length=k:=by simp [momL]
theorem momL_succ (xs ys:List Int) (about:Int) (k:Nat):momL xs ys about (k+1)=momL xs ys about k ++ [ix ys k * (ix xs k - about)]:=by simp [momL,List.range_succ]
theorem momL_ix (xs ys:List Int) (about:Int) (k j:Nat) (h:j < k):ix (momL xs ys about k) j=ix ys j * (ix xs j - about):=by
 simp [ix,momL,List.getD,h]
set_option maxHeartbeats 1000000 in
theorem moment_any (xs ys:List Int) (A:Option Addr) (c:Nat) (A2:Option Addr) (c2:Nat) (about:Int) (hP:OkP 9 100000 xs) (hc:xs.length≤c) (hm:c≤9223372036854775807) (w:World) (h:RD w w.heap.size A (ints xs))
  (hl:ys.length=xs.length) (hc2:ys.length≤c2) (hy:∀ j, -20000≤ix ys j∧ix ys j≤20000) (h2:RD w w.heap.size A2 (ints ys)) (ab0:0≤about) (ab1:about≤100000):
  Calls Tryz.prog 57 #[.slice A xs.length c,.slice A2 ys.length c2,.int .i64 about] w fun e w'=>e= .returned (.int .i64 (dotK (Qab xs) (momL xs ys about xs.length) xs.length))∧Below w.heap.size w w':=by
 have HL:=Lib.hid hl
 have hn9:=hP.many
 have hn2:=hP.two
 have hy9:ys.length≤9:=by omega
 have HY:=Lib.hid hy
 have hpb:∀ k,k < xs.length→ -2000000000≤ix ys k * (ix xs k - about)∧ix ys k * (ix xs k - about)≤2000000000:=fun k hk=>by
  have a:=hP.lo k hk
  have b:=hP.hi' k hk
  have:=mulbd (M:=20000) (N:=100000) (hy k) (show -100000≤ix xs k - about∧ix xs k - about≤100000 by omega) (by omega) (by omega)
  omega
 have HPB:=Lib.hid hpb
 have hlx:∀ k,k < xs.length→0≤ix xs k∧ix xs k≤100000:=fun k hk=>⟨hP.lo k hk,hP.hi' k hk⟩
 have HLX:=Lib.hid hlx
 have H1:=Lib.hid h
 have H2:=Lib.hid h2
 clear hl hy hpb hlx h h2
 go_enter Tryz.func57,Tryz.ntmps57
 go_wp2
 go_loopw [7,12] (fun v x wr=>∃ k:Nat,k≤ys.length∧x= .int .i64 k∧OwnI wr w.heap.size v (momL xs ys about k)∧Below w.heap.size w wr) (fun _ x _=>ys.length - (intOf x).toNat)
 case atStart=>exact ⟨0,by omega,rfl,OwnI.nil _ _,Below.refl _ _⟩
 case round=>
  obtain ⟨k,hk,rfl,hown,hbl⟩:=hrel
  by_cases hk':k < ys.length
  · have hkx:k < xs.length:=by have:=HL.out;omega
    obtain ⟨b2,off2,rfl,hb2,hcell2⟩:=H2.out.ints (by omega)
    obtain ⟨b1,off1,rfl,hb1,hcell1⟩:=H1.out.ints (by omega)
    have y0:=(hbl.cell (p:=⟨b1,off1+k,none⟩) hb1).trans (hcell1 k hkx)
    have y1:=(hbl.cell (p:=⟨b2,off2+k,none⟩) hb2).trans (hcell2 k hk')
    obtain ⟨p0,p1⟩:=HPB.out k hkx
    obtain ⟨q0,q1⟩:=HLX.out k hkx
    have hs:=hbl.size
    have HO:=Lib.hid hown
    have HB:=Lib.hid hbl
    have hml:(momL xs ys about k).length≤1000000:=by rw [Qdo];omega
    clear hcell2 hcell1 hown hbl
    go_wp2_with (at_builtin;refine Qbz rfl _ _ rfl w.heap.size _ _ rfl (HO.out.kept (by repeat' (first | (with_reducible exact Below.refl _ _) | (with_reducible assumption) | (refine Qa (by assumption) ?_ ?_) | (with_reducible refine Qaa ?_ _) | (with_reducible refine Below.drew ?_) | (with_reducible refine Below.alloc ?_ ?_ _) | (with_reducible refine Below.setCell ?_ ?_ _) | go_size)) (Nat.le_refl _)) wr.heap.size 1 _ rfl (Qba _ _ _) hml (by simp;omega) ?_;intro v' w1 hown' hgrow;replace hgrow:=Qcx HB.out HO.out hgrow)
    exact ⟨⟨k+1,by omega,by go_num,by rw [momL_succ];exact hown',hgrow⟩,by simp [intOf];omega⟩
  · obtain ⟨A3,c3,rfl,hc3,hm3,hrd,hbase,_⟩:=hown.form
    have ek:k=xs.length:=by have:=HL.out;omega
    subst ek
    have hy2:∀ j, -2000000000≤ix (momL xs ys about xs.length) j∧ix (momL xs ys about xs.length) j≤2000000000:=fun j=>by
     by_cases hj:j < xs.length
     ·rw [momL_ix _ _ _ _ _ hj];exact HPB.out j hj
     ·rw [ix_out (by rw [Qdo];omega)];omega
    have har:=area_any xs (momL xs ys about xs.length) A c A3 c3 hP hc hm wr ((H1.out.keep hbl (Nat.le_refl _)).more hbl.size) (Qdo _ _ _ _) hc3 hy2 hrd
    have HA:=Lib.hid har
    have HB:=Lib.hid hbl
    clear har hy2 hrd hown hbase hbl
    go_wp2_with (go_at_call 75;(with_reducible refine HA.out.mono ?_);rintro e w1 ⟨rfl,hb1⟩)
    go_ret
    exact ⟨rfl,Qa hb1 HB.out HB.out.size⟩
end Go.Proofs.YtdlmdaononclgaaGreatDoor
namespace Go.Proofs.YtdlmdaononclgaaGreatDoor
open Go.RowKit
set_option linter.unusedVariables false
set_option linter.unusedSimpArgs false
def badO (n:Int):Bool:= !Qbt n (-20000) 20000
def ordE (xs ys:List Int):Int:=if okP 9 100000 xs=true then (if ys.length=xs.length then (if anyB badO ys=true then 1 else 0) else 1) else 12
theorem badO_pred:Pred 88 badO:=by
 intro x W
 cases h:Qbt x (-20000) 20000 with
 | false=>
   go_enter Tryz.func88,Tryz.ntmps88
   go_wp2_with (go_at_call 44;(with_reducible refine (Qaw h _).mono ?_);rintro e w' ⟨rfl,rfl⟩)
   go_ret
   exact ⟨Qbf (by simp [badO,h]),rfl⟩
 | true=>
   go_enter Tryz.func88,Tryz.ntmps88
   go_wp2_with (go_at_call 44;(with_reducible refine (Qaw h _).mono ?_);rintro e w' ⟨rfl,rfl⟩)
   go_ret
   exact ⟨Qbf (by simp [badO,h]),rfl⟩
theorem neq_beq {n m:Nat} (h:n≠m):(((n:Int) != (m:Int))=true):=by simp [bne_iff_ne];omega
set_option maxHeartbeats 1000000 in
theorem checkOrd_any (xs ys:List Int) (A:Option Addr) (c:Nat) (A2:Option Addr) (c2:Nat) (hc:xs.length≤c) (hm:c≤9223372036854775807) (hc2:ys.length≤c2) (hm2:c2≤9223372036854775807) (w:World) {B B2:Nat} (h:RD w B A (ints xs)) (h2:RD w B2 A2 (ints ys)):
   Calls Tryz.prog 74 #[.slice A xs.length c,.slice A2 ys.length c2] w fun e w'=>e= .returned (.int .i64 (ordE xs ys))∧w=w':=by
 have eg:∀ args w,(callFunc 88 args).run Tryz.prog w= .ok (.enter 88 args) w:=enters_of Tryz.func88 (by kernel_rfl) rfl
 have EG:=Lib.hid eg
 clear eg
 cases hp:okP 9 100000 xs with
 | false=>
   have hr:ordE xs ys=12:=by simp [ordE,hp]
   rw [hr]
   go_enter Tryz.func74,Tryz.ntmps74
   go_wp2_with (go_at_call 54;(with_reducible refine (CheckPlaces_no hp A c _ hc hm h).mono ?_);rintro e w' ⟨rfl,rfl⟩)
   go_ret
   exact ⟨rfl,rfl⟩
 | true=>
   by_cases hl:ys.length=xs.length
   ·cases ha:anyB badO ys with
    | true=>
      have hr:ordE xs ys=1:=by simp [ordE,hp,hl,ha]
      rw [hr]
      have e1:(((ys.length:Int) != (xs.length:Int))=false):=by simp [hl]
      have HL:=Lib.hid hl
      clear hl hr
      go_enter Tryz.func74,Tryz.ntmps74
      go_wp2_with (first | (go_at_call 54;(with_reducible refine (Qbu hp A c _ hc hm h).mono ?_);rintro e w' ⟨rfl,rfl⟩) | (go_at_call 42;(with_reducible refine (Qcn _ EG.out badO_pred ha A2 c2 _ hc2 hm2 h2).mono ?_);rintro e w' ⟨rfl,rfl⟩))
      go_ret
      exact ⟨rfl,rfl⟩
    | false=>
      have hr:ordE xs ys=0:=by simp [ordE,hp,hl,ha]
      rw [hr]
      have e1:(((ys.length:Int) != (xs.length:Int))=false):=by simp [hl]
      have HL:=Lib.hid hl
      clear hl hr
      go_enter Tryz.func74,Tryz.ntmps74
      go_wp2_with (first | (go_at_call 54;(with_reducible refine (Qbu hp A c _ hc hm h).mono ?_);rintro e w' ⟨rfl,rfl⟩) | (go_at_call 42;(with_reducible refine (Qcn _ EG.out badO_pred ha A2 c2 _ hc2 hm2 h2).mono ?_);rintro e w' ⟨rfl,rfl⟩))
      go_ret
      exact ⟨rfl,rfl⟩
   ·have hr:ordE xs ys=1:=by simp [ordE,hp,hl]
    rw [hr]
    have e1:=neq_beq hl
    have HL:=Lib.hid hl
    clear hl hr
    go_enter Tryz.func74,Tryz.ntmps74
    go_wp2_with (first | (go_at_call 54;(with_reducible refine (Qbu hp A c _ hc hm h).mono ?_);rintro e w' ⟨rfl,rfl⟩))
    go_ret
    exact ⟨rfl,rfl⟩
end Go.Proofs.YtdlmdaononclgaaGreatDoor
namespace Go.Proofs.YtdlmdaononclgaaGreatDoor
open Go.RowKit
set_option linter.unusedVariables false
set_option linter.unusedSimpArgs false
def vx (vs:List Value) (i:Nat):Value:=vs.getD i (.slice none 0 0)
def rx (rs:List (List Int)) (i:Nat):List Int:=rs.getD i []
theorem vx_get {vs:List Value} {i:Nat} (h:i < vs.length):vs[i]? =some (vx vs i):=by
 simp [vx,List.getD,List.getElem?_eq_getElem h]
theorem vx_set (vs:List Value) {i:Nat} (h:i < vs.length) (v:Value) (j:Nat):vx (vs.set i v) j=if j=i then v else vx vs j:=by
 simp only [vx,List.getD]
 by_cases e:j=i
 ·subst e;rw [if_pos rfl,List.getElem?_set_self h];rfl
 ·rw [if_neg e,List.getElem?_set_ne (fun x=>e x.symm)]
theorem rx_set (rs:List (List Int)) {i:Nat} (h:i < rs.length) (v:List Int) (j:Nat):rx (rs.set i v) j=if j=i then v else rx rs j:=by
 simp only [rx,List.getD]
 by_cases e:j=i
 ·subst e;rw [if_pos rfl,List.getElem?_set_self h];rfl
 ·rw [if_neg e,List.getElem?_set_ne (fun x=>e x.symm)]
def SL (w:World) (B:Nat) (v:Value) (xs:List Int):Prop:=∃ A c,v= .slice A xs.length c∧xs.length≤c∧c≤9223372036854775807∧RD w B A (ints xs)
theorem SL.keep {w w':World} {B B':Nat} {v:Value} {xs:List Int} (h:SL w B v xs) (hb:Below B' w w') (hB:B≤B'):SL w' B v xs:=by
 obtain ⟨A,c,rfl,h1,h2,h3⟩:=h
 exact ⟨A,c,rfl,h1,h2,h3.keep hb hB⟩
theorem SL.more {w:World} {B B':Nat} {v:Value} {xs:List Int} (h:SL w B v xs) (hB:B≤B'):SL w B' v xs:=by
 obtain ⟨A,c,rfl,h1,h2,h3⟩:=h
 exact ⟨A,c,rfl,h1,h2,h3.more hB⟩
structure RR (w:World) (B:Nat) (A:Option Addr) (vs:List Value) (rs:List (List Int)):Prop where
 len:vs.length=rs.length
 rd:RD w B A vs
 each:∀ i,i < rs.length→SL w B (vx vs i) (rx rs i)
theorem RR.keep {w w':World} {B B':Nat} {A:Option Addr} {vs:List Value} {rs:List (List Int)} (h:RR w B A vs rs) (hb:Below B' w w') (hB:B≤B'):RR w' B A vs rs:=
 ⟨h.len,h.rd.keep hb hB,fun i hi=>(h.each i hi).keep hb hB⟩
theorem RR.more {w:World} {B B':Nat} {A:Option Addr} {vs:List Value} {rs:List (List Int)} (h:RR w B A vs rs) (hB:B≤B'):RR w B' A vs rs:=
 ⟨h.len,h.rd.more hB,fun i hi=>(h.each i hi).more hB⟩
theorem RR.cells {w:World} {B:Nat} {A:Option Addr} {vs:List Value} {rs:List (List Int)} (h:RR w B A vs rs) (hp:0 < rs.length):
  ∃ b off,A=some ⟨b,off,none⟩∧b < B∧∀ j,j < rs.length→w.cell? ⟨b,off+j,none⟩=some (vx vs j):=by
 have hl:=h.len
 rcases h.rd with e | ⟨b,off,rfl,hlt,hc⟩
 ·rw [e] at hl;simp only [List.length_nil] at hl;omega
 ·exact ⟨b,off,rfl,hlt,fun j hj=>hc j _ (vx_get (by omega))⟩
theorem OwnI.of_block {w w':World} {base:Nat} {v:Value} {xs:List Int} (h:OwnI w base v xs) (hb:∀ b,v.ownBlock=some b→w'.heap[b]? =w.heap[b]?):OwnI w' base v xs:=by
 refine ⟨h.1,?_⟩
 rcases h.2 with hn | ⟨g,cap,cur,rfl,h1,hg,rest⟩
 ·exact .inl hn
 ·exact .inr ⟨g,cap,cur,rfl,h1,(hb g rfl).trans hg,rest⟩
theorem OwnI.sl {w:World} {base:Nat} {v:Value} {xs:List Int} (h:OwnI w base v xs):SL w w.heap.size v xs:=by
 obtain ⟨A,c,rfl,h1,h2,h3,_⟩:=h.form
 exact ⟨A,c,rfl,h1,h2,h3⟩
structure ORows (w:World) (base G:Nat) (vs:List Value) (rs:List (List Int)):Prop where
 len:vs.length=rs.length
 blk:w.heap[G]? =some (.cells vs.toArray 22 (0,0))
 lt:G < base
 each:∀ i,i < rs.length→OwnI w base (vx vs i) (rx rs i)
 apart:∀ i j b,i < rs.length→j < rs.length→i≠j→(vx vs i).ownBlock=some b→(vx vs j).ownBlock≠some b
def YR (G:Nat) (vs:List Value) (k:Nat):Prop:=k=G∨∃ i,i < vs.length∧(vx vs i).ownBlock=some k
theorem ORows.in {w:World} {base G:Nat} {vs:List Value} {rs:List (List Int)} (h:ORows w base G vs rs):∀ k,YR G vs k→G≤k∧k < w.heap.size∧(k=G∨base≤k):=by
 intro k hk
 have hG:=(Array.getElem?_eq_some_iff.1 h.blk).1
 have:=h.lt
 rcases hk with rfl | ⟨i,hi,he⟩
 ·exact ⟨Nat.le_refl _,hG,.inl rfl⟩
 ·obtain ⟨_,_,_,_,_,_,_,hb⟩:=(h.each i (by rw [←h.len];exact hi)).form
  have:=hb k he
  exact ⟨by omega,this.2,.inr this.1⟩
theorem ORows.of_blocks {w w':World} {base G:Nat} {vs:List Value} {rs:List (List Int)} (h:ORows w base G vs rs) (hb:∀ k,YR G vs k→w'.heap[k]? =w.heap[k]?):ORows w' base G vs rs:=
 ⟨h.len,(hb _ (.inl rfl)).trans h.blk,h.lt,fun i hi=>(h.each i hi).of_block (fun b e=>hb b (.inr ⟨i,by rw [h.len];exact hi,e⟩)),h.apart⟩
theorem ORows.cell {w:World} {base G:Nat} {vs:List Value} {rs:List (List Int)} (h:ORows w base G vs rs) {i:Nat} (hi:i < rs.length):w.cell? ⟨G,i,none⟩=some (vx vs i):=by
 rw [cell_of_row w G i _ _ _ h.blk,List.getElem?_toArray,vx_get (by rw [h.len];exact hi)]
theorem ORows.free {w:World} {base G:Nat} {vs:List Value} {rs:List (List Int)} (h:ORows w base G vs rs) (j:Nat):w.frozen? ⟨G,j,none⟩=false:=by
 have:=h.blk
 simp [World.frozen?, this]
theorem ORows.rr {w:World} {base G:Nat} {vs:List Value} {rs:List (List Int)} (h:ORows w base G vs rs):RR w w.heap.size (some ⟨G,0,none⟩) vs rs:=
 ⟨h.len,.inr ⟨G,0,rfl,(Array.getElem?_eq_some_iff.1 h.blk).1,fun j v hv=>by rw [Nat.zero_add,cell_of_row w G j _ _ _ h.blk,List.getElem?_toArray];exact hv⟩,fun i hi=>(h.each i hi).sl⟩
theorem ORows.put {W W':World} {base G:Nat} {vs:List Value} {rs:List (List Int)} {i:Nat} {v':Value} {ys:List Int} (h:ORows W base G vs rs) (hi:i < rs.length) (hbase:base≤W.heap.size)
  (hg:W.grownBy W' (vx vs i).ownBlock) (ho:OwnI W' base v' ys) (hv:v'.ownBlock=(vx vs i).ownBlock∨v'.ownBlock=some W.heap.size):
  ORows (W'.setCell ⟨G,i,none⟩ v') base G (vs.set i v') (rs.set i ys):=by
 have hlt:=h.lt
 have hGW:=(Array.getElem?_eq_some_iff.1 h.blk).1
 have hrow:∀ j,j < rs.length→∀ b,(vx vs j).ownBlock=some b→base≤b∧b < W.heap.size:=fun j hj b e=>by
  obtain ⟨_,_,_,_,_,_,_,hb⟩:=(h.each j hj).form
  exact hb b e
 have hil:i < vs.length:=by rw [h.len];exact hi
 have hbG:W'.heap[G]? =some (.cells vs.toArray 22 (0,0)):=(hg.block G hGW (fun e=>by have:=hrow i hi G e.symm;omega)).trans h.blk
 have hset:∀ b,b≠G→(W'.setCell ⟨G,i,none⟩ v').heap[b]? =W'.heap[b]? :=fun b hb=>Below.heap_setCell _ _ _ _ hb
 refine ⟨by rw [List.length_set,List.length_set];exact h.len,?_,hlt,?_,?_⟩
 ·simp [World.setCell,Array.getElem?_modify,hbG]
 ·intro j hj
  rw [List.length_set] at hj
  rw [vx_set _ hil,rx_set _ hi]
  by_cases e:j=i
  · rw [if_pos e,if_pos e]
    refine ho.of_block (fun b hb=>hset b ?_)
    obtain ⟨_,_,_,_,_,_,_,hb'⟩:=ho.form
    have:=hb' b hb
    omega
  · rw [if_neg e,if_neg e]
    refine (h.each j hj).of_block (fun b hb=>?_)
    have hbr:=hrow j hj b hb
    exact (hset b (by omega)).trans (hg.block b hbr.2 (fun x=>h.apart i j b hi hj (fun q=>e q.symm) x.symm hb))
 ·intro j k b hj hk hne hb hb'
  rw [List.length_set] at hj hk
  rw [vx_set _ hil] at hb hb'
  have fresh:∀ m,m < rs.length→m≠i→∀ b,(vx vs m).ownBlock=some b→v'.ownBlock≠some b:=fun m hm hmi b hmb hvb=>by
    rcases hv with e | e
    ·exact h.apart m i b hm hi hmi hmb (e ▸ hvb)
    ·rw [e] at hvb
     have:=hrow m hm b hmb
     simp only [Option.some.injEq] at hvb
     omega
  by_cases e1:j=i
  · rw [if_pos e1] at hb
    rw [if_neg (by omega)] at hb'
    exact fresh k hk (by omega) b hb' hb
  · rw [if_neg e1] at hb
    by_cases e2:k=i
    ·rw [if_pos e2] at hb'
     exact fresh j hj e1 b hb hb'
    ·rw [if_neg e2] at hb'
     exact h.apart j k b hj hk hne hb hb'
theorem ORows.put_round {W0 W W':World} {base G:Nat} {vs:List Value} {rs:List (List Int)} {i:Nat} {v':Value} {ys:List Int} (h0:ORows W0 base G vs rs) (hb0:Below W0.heap.size W0 W) (hi:i < rs.length)
  (hbase:base≤W0.heap.size) (hg:W.grownBy W' (vx vs i).ownBlock) (ho:OwnI W' base v' ys) (hv:v'.ownBlock=(vx vs i).ownBlock∨v'.ownBlock=some W.heap.size):
  ORows (W'.setCell ⟨G,i,none⟩ v') base G (vs.set i v') (rs.set i ys)∧Round (YR G vs) (YR G (vs.set i v')) W0 (W'.setCell ⟨G,i,none⟩ v'):=by
 have hin:=h0.in
 have hil:i < vs.length:=by rw [h0.len];exact hi
 have h1:ORows W base G vs rs:=h0.of_blocks (fun k hk=>hb0.block k (hin k hk).2.1)
 have h2:=h1.put hi (Nat.le_trans hbase hb0.size) hg ho hv
 have hs0:=hb0.size
 have hs1:=hg.size
 refine ⟨h2,⟨hg.os.trans hb0.os,hg.tape.trans hb0.tape,hg.output.trans hb0.output,?_,?_,?_,?_⟩⟩
 ·simp [World.setCell];omega
 ·intro k hk hy
  rw [Below.heap_setCell _ _ _ _ (fun e=>hy (.inl e))]
  exact (hg.block k (by omega) (fun e=>hy (.inr ⟨i,hil,e.symm⟩))).trans (hb0.block k hk)
 ·intro k hk
  rcases hk with rfl | ⟨j,hj,e⟩
  · exact .inl (.inl rfl)
  · rw [List.length_set] at hj
    rw [vx_set _ hil] at e
    by_cases hji:j=i
    ·rw [if_pos hji] at e
     rcases hv with h | h
     ·exact .inl (.inr ⟨i,hil,h ▸ e⟩)
     ·rw [h] at e;simp only [Option.some.injEq] at e;right;omega
    ·rw [if_neg hji] at e
     exact .inl (.inr ⟨j,hj,e⟩)
 ·exact fun k hk=>(h2.in k hk).2.1
theorem ORows.new (W:World) (n base:Nat) (hb:W.heap.size < base):ORows (W.alloc (.cells (List.replicate n (Value.slice none 0 0)).toArray 22)) base W.heap.size (List.replicate n (.slice none 0 0)) (List.replicate n []):=by
 have e:∀ i,i < n→vx (List.replicate n (Value.slice none 0 0)) i= .slice none 0 0:=fun i hi=>by simp [vx,List.getD,List.getElem?_replicate,hi]
 have e2:∀ i,i < n→rx (List.replicate n ([]:List Int)) i=[]:=fun i hi=>by simp [rx,List.getD,List.getElem?_replicate,hi]
 refine ⟨by simp,heap_alloc_new W _,hb,fun i hi=>?_,fun i j b hi hj hne hb=>?_⟩
 ·rw [List.length_replicate] at hi
  rw [e i hi,e2 i hi];exact OwnI.nil _ _
 ·rw [List.length_replicate] at hi
  rw [e i hi] at hb;cases hb
theorem OwnI.kind {w:World} {base:Nat} {v:Value} {xs:List Int} (h:OwnI w base v xs) {b:Nat} (hb:v.ownBlock=some b):∃ cs,w.heap[b]? =some (.cells cs 3 (0,0)):=by
 rcases h.2 with ⟨rfl,_⟩ | ⟨g,cap,cur,rfl,h1,hg,_⟩
 ·cases hb
 ·simp only [Value.ownBlock,Option.some.injEq] at hb
  subst hb
  exact ⟨_,hg⟩
variable {w:World}
theorem op_app2 {ops:Array Oper} {o:Oper} {a:Act} {K:Act→World→Prop} {Q:Exit→Act→World→Prop} {E:Prop} (hgd:o.guard=none) (s x:Operand)
  (ho:o.op= .call {callee:=.builtin .append,args:= #[s,x],argTypes:= #[22,22]})
  (base:Nat) (v:Value) (xs:List Int) (hs:a.eval s=v) (hown:OwnI w base v xs) (g c:Nat) (y:Int) (hx:a.eval x= .slice (some ⟨g,0,none⟩) 1 c) (hc:w.cell? ⟨g,0,none⟩=some (.int .i64 y))
  (hlen:xs.length≤1000000) (hbase:base≤w.heap.size)
  (h:∀ v' w',OwnI w' base v' (xs ++ [y])→w.grownBy w' v.ownBlock→(v'.ownBlock=v.ownBlock∨v'.ownBlock=some w.heap.size)→K (a.put o.dst v') w'):
  if Region.wanted o (yielded ops a.tmps)=true then Oper.wp Tryz.prog o a w K Q else E:=by
 have hw:Region.wanted o (yielded ops a.tmps)=true:=by simp [Region.wanted,hgd]
 rw [if_pos hw]
 obtain ⟨i0,hi,hz0,hz1,hz2⟩:=info_parts infoInt
 obtain ⟨v',w',hrun,h2,h3,_,h5⟩:=run_append_own_at (P:=Tryz.prog) w base 22 o.type 3 i0 (.int .i64 0) 1 8 Tryz.underlying22 hi hz0 hz1 hz2 rfl (by decide) v xs.length (ints xs) hown
  ⟨g,0,none⟩ 1 c [.int .i64 y] rfl (fun j u hu=>by
    match j,hu with
    | 0,hu=>simp at hu;subst hu;exact hc) (by simp [Value.oneCell']) (by unfold maxLen;omega) (by omega) hbase
 unfold Oper.wp execOp
 simp only [ho,resolve,invoke,builtin,Sem.run_bind,Sem.run_pure,Result.andThen_ok,List.map_toArray,List.map_cons,List.map_nil,hs,hx,hrun]
 refine h v' w' ?_ h3 h5
 unfold OwnI
 rw [List.length_append]
 simpa [ints] using h2
end Go.Proofs.YtdlmdaononclgaaGreatDoor
