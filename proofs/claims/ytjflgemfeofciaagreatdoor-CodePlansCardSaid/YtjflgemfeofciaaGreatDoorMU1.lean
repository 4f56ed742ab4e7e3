import Derived.Test.YtjflgemfeofciaaGreatDoorTy
import Derived.Test.YtjflgemfeofciaaGreatDoorMX2
import Derived.Test.YtjflgemfeofciaaGreatDoorMN1
namespace Go.Proofs.YtjflgemfeofciaaGreatDoor
open Go Go.Ev
set_option linter.unusedVariables false
set_option linter.unusedSimpArgs false
set_option maxRecDepth 10000
def Qae (n lo hi:Int):Bool:=decide (lo≤n) && decide (n≤hi)
theorem Qai (n lo hi:Int) (g:G):Fv Tryz.prog natS (.f 67 [] []) [.i .i64 n,.i .i64 lo,.i .i64 hi] g (.b (Qae n lo hi)):=by
 refine Fw.fv ?_
 refine Fw.enter (N:=15) (al:=[(2,_),(1,_),(0,_)]) Tryz.func67 (by kernel_rfl) (by kernel_rfl) rfl rfl rfl rfl ?_
 intro B
 refine .seq<|.region rfl<|.z rfl rfl<|.nil<|sq_n<|.seq<|.region rfl<|.m rfl rfl<|.m rfl rfl<|.b rfl rfl rfl rfl<|.m rfl rfl<|.split (t:=10) rfl (fun h1=>?_) (fun h1=>?_)
 ·have kh1:=h1;(try simp only [bk] at kh1)
  refine .py h1 (.move rfl)<|.py h1 (.move rfl)<|.py h1 (.bin rfl rfl rfl)<|.q (.pickT rfl h1 rfl)<|.z rfl rfl<|.nil<|sq_n<|.ret<|Qaa (Le.refl _) (.tmp rfl .nil) rfl ?_
  first | rfl | (simp [Qae, *])
 ·have kh1:=h1;(try simp only [bk] at kh1)
  refine .k h1<|.k h1<|.k h1<|.q (.pickF rfl h1 rfl)<|.z rfl rfl<|.nil<|sq_n<|.ret<|Qaa (Le.refl _) (.tmp rfl .nil) rfl ?_
  first | rfl | (simp [Qae, *])
theorem in_ok (n lo hi:Int) (g:G):Fv Tryz.prog natS (.f 70 [] []) [.i .i64 n,.i .i64 lo,.i .i64 hi] g (.b (Qae n lo hi)):=by
 refine Fw.fv ?_
 refine Fw.enter (N:=15) (al:=[(2,_),(1,_),(0,_)]) Tryz.func70 (by kernel_rfl) (by kernel_rfl) rfl rfl rfl rfl ?_
 intro B
 refine .seq<|.region rfl<|.z rfl rfl<|.nil<|sq_n<|.seq<|.region rfl<|.m rfl rfl<|.m rfl rfl<|.b rfl rfl rfl rfl<|.m rfl rfl<|.split (t:=10) rfl (fun h1=>?_) (fun h1=>?_)
 ·have kh1:=h1;(try simp only [bk] at kh1)
  refine .py h1 (.move rfl)<|.py h1 (.move rfl)<|.py h1 (.bin rfl rfl rfl)<|.q (.pickT rfl h1 rfl)<|.z rfl rfl<|.nil<|sq_n<|.ret<|Qaa (Le.refl _) (.tmp rfl .nil) rfl ?_
  first | rfl | (simp [Qae, *])
 ·have kh1:=h1;(try simp only [bk] at kh1)
  refine .k h1<|.k h1<|.k h1<|.q (.pickF rfl h1 rfl)<|.z rfl rfl<|.nil<|sq_n<|.ret<|Qaa (Le.refl _) (.tmp rfl .nil) rfl ?_
  first | rfl | (simp [Qae, *])
structure Room where
 id:Int
 kind:Int
 op:Int
 cr:Int
 lo:Int
 hi:Int
def Room.ok (r:Room):Bool:=Qae r.id 1 999 && (Qae r.kind 1 9 && (Qae r.op 0 1000 && (Qae r.cr 0 999 && (!decide (r.lo < 0) && (!decide (r.hi < r.lo) && !decide (1000000000 < r.hi))))))
def roomE (r:Room):Int:=if r.ok then 0 else 40
def Room.v (r:Room):List V:=[.i .i64 r.id,.i .i64 r.kind,.i .i64 r.op,.i .i64 r.cr,.i .i64 r.lo,.i .i64 r.hi]
def RoomR (g:G) (cs:List V) (r:Room):Prop:=cs=r.v
theorem RoomR.mono:∀ g g' cs x,Le g g'→RoomR g cs x→RoomR g' cs x:=fun _ _ _ _ _ h=>h
theorem CheckRoom_ok (r:Room) (g:G):Fv Tryz.prog natS (.f 19 [] []) [.agg r.v] g (.i .i64 (roomE r)):=by
 refine Fw.fv ?_
 refine Fw.enter (N:=46) (al:=[(0,_)]) Tryz.func19 (by kernel_rfl) (by kernel_rfl) rfl rfl rfl rfl ?_
 intro B
 refine .seq<|.region rfl<|.box .no rfl rfl rfl rfl fun b1=>.z rfl rfl<|.nil<|sq_n<|.seq<|.seq<|.region rfl<|.q (.fa rfl Qca)<|.w (.s rfl .hd a_3 rfl)<|.callV .no rfl rfl rfl (Qai _ _ _ _)<|.q (.not rfl)<|.m rfl rfl<|.split (t:=7) rfl (fun h2=>?_) (fun h2=>?_)
 ·have kh2:=h2;(try simp only [bk] at kh2)
  refine .k h2<|.k h2<|.k h2<|.k h2<|.q (.pickT rfl h2 rfl)<|.m rfl rfl<|.k rfl<|.k rfl<|.k rfl<|.k rfl<|.q (.pickT rfl rfl rfl)<|.m rfl rfl<|.k rfl<|.k rfl<|.k rfl<|.k rfl<|.q (.pickT rfl rfl rfl)<|.m rfl rfl<|.k rfl<|.k rfl<|.k rfl<|.k rfl<|.q (.pickT rfl rfl rfl)<|.m rfl rfl<|.k rfl<|.k rfl<|.k rfl<|.k rfl<|.k rfl<|.k rfl ?_
  refine .k rfl<|.q (.pickT rfl rfl rfl)<|.m rfl rfl<|.k rfl<|.k rfl<|.k rfl<|.k rfl<|.q (.pickT rfl rfl rfl)<|.nil<|sq_n<|.condT rfl rfl<|.seq<|.region rfl<|.z rfl rfl<|.nil<|sq_n<|.ret<|sq_r<|Qaa (Le.refl _) (.tmp rfl .nil) rfl ?_
  first | rfl | (simp_all [roomE,Room.ok];done)
 ·have kh2:=h2;(try simp only [bk] at kh2)
  refine .py h2 (.fa rfl f_29_1)<|.wy h2 (.s rfl .hd a_3 rfl)<|.callV (.yes rfl rfl h2) rfl rfl rfl (Qai _ _ _ _)<|.py h2 (.not rfl)<|.q (.pickF rfl h2 rfl)<|.m rfl rfl<|.split (t:=13) rfl (fun h3=>?_) (fun h3=>?_)
  ·have kh3:=h3;(try simp only [bk] at kh3)
   refine .k h3<|.k h3<|.k h3<|.k h3<|.q (.pickT rfl h3 rfl)<|.m rfl rfl<|.k rfl<|.k rfl<|.k rfl<|.k rfl<|.q (.pickT rfl rfl rfl)<|.m rfl rfl<|.k rfl<|.k rfl<|.k rfl<|.k rfl<|.q (.pickT rfl rfl rfl)<|.m rfl rfl<|.k rfl<|.k rfl<|.k rfl<|.k rfl<|.k rfl<|.k rfl<|.k rfl<|.q (.pickT rfl rfl rfl)<|.m rfl rfl<|.k rfl<|.k rfl<|.k rfl ?_
   refine .k rfl<|.q (.pickT rfl rfl rfl)<|.nil<|sq_n<|.condT rfl rfl<|.seq<|.region rfl<|.z rfl rfl<|.nil<|sq_n<|.ret<|sq_r<|Qaa (Le.refl _) (.tmp rfl .nil) rfl ?_
   first | rfl | (simp_all [roomE,Room.ok];done)
  ·have kh3:=h3;(try simp only [bk] at kh3)
   refine .py h3 (.fa rfl f_29_2)<|.wy h3 (.s rfl .hd a_3 rfl)<|.callV (.yes rfl rfl h3) rfl rfl rfl (Qai _ _ _ _)<|.py h3 (.not rfl)<|.q (.pickF rfl h3 rfl)<|.m rfl rfl<|.split (t:=19) rfl (fun h4=>?_) (fun h4=>?_)
   ·have kh4:=h4;(try simp only [bk] at kh4)
    refine .k h4<|.k h4<|.k h4<|.k h4<|.q (.pickT rfl h4 rfl)<|.m rfl rfl<|.k rfl<|.k rfl<|.k rfl<|.k rfl<|.q (.pickT rfl rfl rfl)<|.m rfl rfl<|.k rfl<|.k rfl<|.k rfl<|.k rfl<|.k rfl<|.k rfl<|.k rfl<|.q (.pickT rfl rfl rfl)<|.m rfl rfl<|.k rfl<|.k rfl<|.k rfl<|.k rfl<|.q (.pickT rfl rfl rfl)<|.nil<|sq_n<|.condT rfl rfl<|.seq<|.region rfl ?_
    refine .z rfl rfl<|.nil<|sq_n<|.ret<|sq_r<|Qaa (Le.refl _) (.tmp rfl .nil) rfl ?_
    first | rfl | (simp_all [roomE,Room.ok];done)
   ·have kh4:=h4;(try simp only [bk] at kh4)
    refine .py h4 (.fa rfl f_29_3)<|.wy h4 (.s rfl .hd a_3 rfl)<|.callV (.yes rfl rfl h4) rfl rfl rfl (Qai _ _ _ _)<|.py h4 (.not rfl)<|.q (.pickF rfl h4 rfl)<|.m rfl rfl<|.split (t:=25) rfl (fun h5=>?_) (fun h5=>?_)
    ·have kh5:=h5;(try simp only [bk] at kh5)
     refine .k h5<|.k h5<|.k h5<|.k h5<|.q (.pickT rfl h5 rfl)<|.m rfl rfl<|.k rfl<|.k rfl<|.k rfl<|.k rfl<|.k rfl<|.k rfl<|.k rfl<|.q (.pickT rfl rfl rfl)<|.m rfl rfl<|.k rfl<|.k rfl<|.k rfl<|.k rfl<|.q (.pickT rfl rfl rfl)<|.nil<|sq_n<|.condT rfl rfl<|.seq<|.region rfl<|.z rfl rfl<|.nil<|sq_n<|.ret<|sq_r<|Qaa (Le.refl _) (.tmp rfl .nil) rfl ?_
     first | rfl | (simp_all [roomE,Room.ok];done)
    ·have kh5:=h5;(try simp only [bk] at kh5)
     refine .py h5 (.fa rfl Qbe)<|.py h5 (.fa rfl Qap)<|.wy h5 (.s rfl .hd a_3 rfl)<|.py h5 (.bin rfl rfl rfl)<|.q (.pickF rfl h5 rfl)<|.m rfl rfl<|.split (t:=31) rfl (fun h6=>?_) (fun h6=>?_)
     ·have kh6:=h6;(try simp only [bk] at kh6)
      refine .k h6<|.k h6<|.k h6<|.k h6<|.k h6<|.k h6<|.k h6<|.q (.pickT rfl h6 rfl)<|.m rfl rfl<|.k rfl<|.k rfl<|.k rfl<|.k rfl<|.q (.pickT rfl rfl rfl)<|.nil<|sq_n<|.condT rfl rfl<|.seq<|.region rfl<|.z rfl rfl<|.nil<|sq_n<|.ret<|sq_r<|Qaa (Le.refl _) (.tmp rfl .nil) rfl ?_
      first | rfl | (simp_all [roomE,Room.ok];done)
     ·have kh6:=h6;(try simp only [bk] at kh6)
      refine .py h6 (.fa rfl Qbe)<|.py h6 (.fa rfl Qap)<|.wy h6 (.s rfl .hd a_3 rfl)<|.py h6 (.fa rfl Qbe)<|.py h6 (.fa rfl Qao)<|.wy h6 (.s rfl .hd a_3 rfl)<|.py h6 (.bin rfl rfl rfl)<|.q (.pickF rfl h6 rfl)<|.m rfl rfl<|.split (t:=40) rfl (fun h7=>?_) (fun h7=>?_)
      ·have kh7:=h7;(try simp only [bk] at kh7)
       refine .k h7<|.k h7<|.k h7<|.k h7<|.q (.pickT rfl h7 rfl)<|.nil<|sq_n<|.condT rfl rfl<|.seq<|.region rfl<|.z rfl rfl<|.nil<|sq_n<|.ret<|sq_r<|Qaa (Le.refl _) (.tmp rfl .nil) rfl ?_
       first | rfl | (simp_all [roomE,Room.ok];done)
      ·have kh7:=h7;(try simp only [bk] at kh7)
       refine .py h7 (.fa rfl Qbe)<|.py h7 (.fa rfl Qao)<|.wy h7 (.s rfl .hd a_3 rfl)<|.py h7 (.bin rfl rfl rfl)<|.q (.pickF rfl h7 rfl)<|.nil<|sq_n<|.cond rfl (fun h8=>?_) (fun h8=>?_)
       ·have kh8:=h8;(try simp only [bk] at kh8)
        refine .seq<|.region rfl<|.z rfl rfl<|.nil<|sq_n<|.ret<|sq_r<|Qaa (Le.refl _) (.tmp rfl .nil) rfl ?_
        first | rfl | (simp_all [roomE,Room.ok];done)
       ·have kh8:=h8;(try simp only [bk] at kh8)
        refine .skip<|sq_n<|.seq<|.region rfl<|.z rfl rfl<|.nil<|sq_n<|.ret<|Qaa (Le.refl _) (.tmp rfl .nil) rfl ?_
        first | rfl | (simp_all [roomE,Room.ok];done)
theorem rCheckRoom_ok (r:Room) (g:G):Fv Tryz.prog natS (.f 20 [] []) [.agg r.v] g (.i .i64 (roomE r)):=by
 refine Fw.fv ?_
 refine Fw.enter (N:=46) (al:=[(0,_)]) Tryz.func20 (by kernel_rfl) (by kernel_rfl) rfl rfl rfl rfl ?_
 intro B
 refine .seq<|.region rfl<|.box .no rfl rfl rfl rfl fun b1=>.z rfl rfl<|.nil<|sq_n<|.seq<|.seq<|.region rfl<|.q (.fa rfl Qca)<|.w (.s rfl .hd a_3 rfl)<|.callV .no rfl rfl rfl (in_ok _ _ _ _)<|.q (.not rfl)<|.m rfl rfl<|.split (t:=7) rfl (fun h2=>?_) (fun h2=>?_)
 ·have kh2:=h2;(try simp only [bk] at kh2)
  refine .k h2<|.k h2<|.k h2<|.k h2<|.q (.pickT rfl h2 rfl)<|.m rfl rfl<|.k rfl<|.k rfl<|.k rfl<|.k rfl<|.q (.pickT rfl rfl rfl)<|.m rfl rfl<|.k rfl<|.k rfl<|.k rfl<|.k rfl<|.q (.pickT rfl rfl rfl)<|.m rfl rfl<|.k rfl<|.k rfl<|.k rfl<|.k rfl<|.q (.pickT rfl rfl rfl)<|.m rfl rfl<|.k rfl<|.k rfl<|.k rfl<|.k rfl<|.k rfl<|.k rfl ?_
  refine .k rfl<|.q (.pickT rfl rfl rfl)<|.m rfl rfl<|.k rfl<|.k rfl<|.k rfl<|.k rfl<|.q (.pickT rfl rfl rfl)<|.nil<|sq_n<|.condT rfl rfl<|.seq<|.region rfl<|.z rfl rfl<|.nil<|sq_n<|.ret<|sq_r<|Qaa (Le.refl _) (.tmp rfl .nil) rfl ?_
  first | rfl | (simp_all [roomE,Room.ok];done)
 ·have kh2:=h2;(try simp only [bk] at kh2)
  refine .py h2 (.fa rfl f_29_1)<|.wy h2 (.s rfl .hd a_3 rfl)<|.callV (.yes rfl rfl h2) rfl rfl rfl (in_ok _ _ _ _)<|.py h2 (.not rfl)<|.q (.pickF rfl h2 rfl)<|.m rfl rfl<|.split (t:=13) rfl (fun h3=>?_) (fun h3=>?_)
  ·have kh3:=h3;(try simp only [bk] at kh3)
   refine .k h3<|.k h3<|.k h3<|.k h3<|.q (.pickT rfl h3 rfl)<|.m rfl rfl<|.k rfl<|.k rfl<|.k rfl<|.k rfl<|.q (.pickT rfl rfl rfl)<|.m rfl rfl<|.k rfl<|.k rfl<|.k rfl<|.k rfl<|.q (.pickT rfl rfl rfl)<|.m rfl rfl<|.k rfl<|.k rfl<|.k rfl<|.k rfl<|.k rfl<|.k rfl<|.k rfl<|.q (.pickT rfl rfl rfl)<|.m rfl rfl<|.k rfl<|.k rfl<|.k rfl ?_
   refine .k rfl<|.q (.pickT rfl rfl rfl)<|.nil<|sq_n<|.condT rfl rfl<|.seq<|.region rfl<|.z rfl rfl<|.nil<|sq_n<|.ret<|sq_r<|Qaa (Le.refl _) (.tmp rfl .nil) rfl ?_
   first | rfl | (simp_all [roomE,Room.ok];done)
  ·have kh3:=h3;(try simp only [bk] at kh3)
   refine .py h3 (.fa rfl f_29_2)<|.wy h3 (.s rfl .hd a_3 rfl)<|.callV (.yes rfl rfl h3) rfl rfl rfl (in_ok _ _ _ _)<|.py h3 (.not rfl)<|.q (.pickF rfl h3 rfl)<|.m rfl rfl<|.split (t:=19) rfl (fun h4=>?_) (fun h4=>?_)
   ·have kh4:=h4;(try simp only [bk] at kh4)
    refine .k h4<|.k h4<|.k h4<|.k h4<|.q (.pickT rfl h4 rfl)<|.m rfl rfl<|.k rfl<|.k rfl<|.k rfl<|.k rfl<|.q (.pickT rfl rfl rfl)<|.m rfl rfl<|.k rfl<|.k rfl<|.k rfl<|.k rfl<|.k rfl<|.k rfl<|.k rfl<|.q (.pickT rfl rfl rfl)<|.m rfl rfl<|.k rfl<|.k rfl<|.k rfl<|.k rfl<|.q (.pickT rfl rfl rfl)<|.nil<|sq_n<|.condT rfl rfl<|.seq<|.region rfl ?_
    refine .z rfl rfl<|.nil<|sq_n<|.ret<|sq_r<|Qaa (Le.refl _) (.tmp rfl .nil) rfl ?_
    first | rfl | (simp_all [roomE,Room.ok];done)
   ·have kh4:=h4;(try simp only [bk] at kh4)
    refine .py h4 (.fa rfl f_29_3)<|.wy h4 (.s rfl .hd a_3 rfl)<|.callV (.yes rfl rfl h4) rfl rfl rfl (in_ok _ _ _ _)<|.py h4 (.not rfl)<|.q (.pickF rfl h4 rfl)<|.m rfl rfl<|.split (t:=25) rfl (fun h5=>?_) (fun h5=>?_)
    ·have kh5:=h5;(try simp only [bk] at kh5)
     refine .k h5<|.k h5<|.k h5<|.k h5<|.q (.pickT rfl h5 rfl)<|.m rfl rfl<|.k rfl<|.k rfl<|.k rfl<|.k rfl<|.k rfl<|.k rfl<|.k rfl<|.q (.pickT rfl rfl rfl)<|.m rfl rfl<|.k rfl<|.k rfl<|.k rfl<|.k rfl<|.q (.pickT rfl rfl rfl)<|.nil<|sq_n<|.condT rfl rfl<|.seq<|.region rfl<|.z rfl rfl<|.nil<|sq_n<|.ret<|sq_r<|Qaa (Le.refl _) (.tmp rfl .nil) rfl ?_
     first | rfl | (simp_all [roomE,Room.ok];done)
    ·have kh5:=h5;(try simp only [bk] at kh5)
     refine .py h5 (.fa rfl Qbe)<|.py h5 (.fa rfl Qap)<|.wy h5 (.s rfl .hd a_3 rfl)<|.py h5 (.bin rfl rfl rfl)<|.q (.pickF rfl h5 rfl)<|.m rfl rfl<|.split (t:=31) rfl (fun h6=>?_) (fun h6=>?_)
     ·have kh6:=h6;(try simp only [bk] at kh6)
      refine .k h6<|.k h6<|.k h6<|.k h6<|.k h6<|.k h6<|.k h6<|.q (.pickT rfl h6 rfl)<|.m rfl rfl<|.k rfl<|.k rfl<|.k rfl<|.k rfl<|.q (.pickT rfl rfl rfl)<|.nil<|sq_n<|.condT rfl rfl<|.seq<|.region rfl<|.z rfl rfl<|.nil<|sq_n<|.ret<|sq_r<|Qaa (Le.refl _) (.tmp rfl .nil) rfl ?_
      first | rfl | (simp_all [roomE,Room.ok];done)
     ·have kh6:=h6;(try simp only [bk] at kh6)
      refine .py h6 (.fa rfl Qbe)<|.py h6 (.fa rfl Qap)<|.wy h6 (.s rfl .hd a_3 rfl)<|.py h6 (.fa rfl Qbe)<|.py h6 (.fa rfl Qao)<|.wy h6 (.s rfl .hd a_3 rfl)<|.py h6 (.bin rfl rfl rfl)<|.q (.pickF rfl h6 rfl)<|.m rfl rfl<|.split (t:=40) rfl (fun h7=>?_) (fun h7=>?_)
      ·have kh7:=h7;(try simp only [bk] at kh7)
       refine .k h7<|.k h7<|.k h7<|.k h7<|.q (.pickT rfl h7 rfl)<|.nil<|sq_n<|.condT rfl rfl<|.seq<|.region rfl<|.z rfl rfl<|.nil<|sq_n<|.ret<|sq_r<|Qaa (Le.refl _) (.tmp rfl .nil) rfl ?_
       first | rfl | (simp_all [roomE,Room.ok];done)
      ·have kh7:=h7;(try simp only [bk] at kh7)
       refine .py h7 (.fa rfl Qbe)<|.py h7 (.fa rfl Qao)<|.wy h7 (.s rfl .hd a_3 rfl)<|.py h7 (.bin rfl rfl rfl)<|.q (.pickF rfl h7 rfl)<|.nil<|sq_n<|.cond rfl (fun h8=>?_) (fun h8=>?_)
       ·have kh8:=h8;(try simp only [bk] at kh8)
        refine .seq<|.region rfl<|.z rfl rfl<|.nil<|sq_n<|.ret<|sq_r<|Qaa (Le.refl _) (.tmp rfl .nil) rfl ?_
        first | rfl | (simp_all [roomE,Room.ok];done)
       ·have kh8:=h8;(try simp only [bk] at kh8)
        refine .skip<|sq_n<|.seq<|.region rfl<|.z rfl rfl<|.nil<|sq_n<|.ret<|Qaa (Le.refl _) (.tmp rfl .nil) rfl ?_
        first | rfl | (simp_all [roomE,Room.ok];done)
end Go.Proofs.YtjflgemfeofciaaGreatDoor
namespace Go.Proofs.YtjflgemfeofciaaGreatDoor
open Go Go.Ev
set_option linter.unusedVariables false
set_option linter.unusedSimpArgs false
set_option maxRecDepth 10000
def allR (p:Nat→Bool):Nat→Bool
 | 0=>true
 | n+1=>allR p n && p n
theorem allR_no {p:Nat→Bool} {n k:Nat} (hk:k < n) (h:p k=false):allR p n=false:=by
 induction n with
 | zero=>omega
 | succ n ih=>
   unfold allR
   by_cases e:k=n
   ·subst e;rw [h,Bool.and_false]
   ·rw [ih (by omega),Bool.false_and]
theorem allR_get {p:Nat→Bool} {n k:Nat} (h:allR p n=true) (hk:k < n):p k=true:=by
 cases hp:p k with
 | true=>rfl
 | false=>rw [allR_no hk hp] at h;cases h
def rgood (l:List Room) (j:Nat):Bool:=match l[j]? with
 | some r=>r.ok && (decide (j=0) || match l[j - 1]? with | some q=>decide (q.id < r.id) | none=>true)
 | none=>true
def Qcp (l:List Room):Int:=if l.length≤20∧allR (rgood l) l.length=true then 0 else 40
theorem roomsE_no {l:List Room} {k:Nat} (hk:k < l.length) (h:rgood l k=false):40=Qcp l:=by
 unfold Qcp;rw [allR_no hk h];simp
theorem Qdu (r:Room):roomE r=0↔r.ok=true:=by unfold roomE;cases r.ok <;> simp
theorem CheckRooms_ok (l:List Room) (v:V) (g:G) (h:RS RoomR 6 g v l):Fv Tryz.prog natS (.f 17 [] []) [v] g (.i .i64 (Qcp l)):=by
 refine Fw.fv ?_
 have hlen:=h.1
 refine Fw.enter (N:=34) (al:=[(0,_)]) Tryz.func17 (by kernel_rfl) (by kernel_rfl) rfl rfl rfl rfl ?_
 intro B
 refine .seq<|.region rfl<|.z rfl rfl<|.nil<|sq_n<|.seq<|.seq<|.region rfl<|.m rfl rfl<|.q (.lenR rfl rfl rfl e_25 h)<|.b rfl rfl rfl rfl<|.nil<|sq_n<|.cond rfl (fun h1=>?_) (fun h1=>?_)
 ·have kh1:=h1;(try simp only [bk] at kh1)
  refine .seq<|.region rfl<|.z rfl rfl<|.nil<|sq_n<|.ret<|sq_r<|Qaa (Le.refl _) (.tmp rfl .nil) rfl ?_
  first
   | (refine congrArg (V.i .i64) ?_;unfold Qcp;rw [if_neg (by omega)];done)
 ·have kh1:=h1;(try simp only [bk] at kh1)
  refine .skip<|sq_n<|.seq<|.seq<|.region rfl<|.m rfl rfl<|.q (.lenR rfl rfl rfl e_25 h)<|.m rfl rfl<|.nil<|sq_n<|.block<|.loopx (α:=Nat) [(0,_),(8,_),(9,_)] _ (fun fx k=>(10,.i .i64 (k:Int)) :: fx) (fun mx _=>mx) (fun k g'=>k≤l.length∧l.length≤20∧allR (rgood l) k=true∧RS RoomR 6 g' v l) (fun k=>l.length - k) (0) ⟨rfl,rfl,rfl,rfl,trivial⟩ (List.Sublist.refl _) ⟨by omega,by omega,rfl,h⟩ ?_
  intro k g3 hle2 hJ
  obtain ⟨hk,hl,hg,h⟩:=hJ
  refine .seq<|.region rfl<|.b rfl rfl rfl rfl<|.nil<|sq_n<|.seq<|.cond rfl (fun h4=>?_) (fun h4=>?_)
  ·have kh4:=h4;(try simp only [bk] at kh4)
   refine .skip<|sq_n<|.seq<|.block<|.seq<|.region rfl<|.m rfl rfl<|.ixn .no rfl rfl h rfl e_25 (by omega) ?_
   intro b5 o5 cs5 y5 hy5 hq5 hr5
   obtain rfl:=hr5
   refine .w (.pa 0 (vs:=[_,_,_,_,_,_]) rfl hq5 rfl a_29 s_29 rfl rfl)<|.alloc .no rfl z_29 fun b6=>.z rfl rfl<|.st (cs':=[_,_,_,_,_,_]) .no rfl rfl rfl rfl s_29 rfl rfl .hd rfl rfl<|.nil<|sq_n<|.seq<|.draw (tb:=[r1 0 0,r1 1 0,r1 3 1,r1 7 1,r1 15 1,r1 31 1,r1 63 1,r0 127 1,r0 127 1,r0 383 1,r0 1023 1,r0 2047 1,r0 4095 1,r0 127 1,r0 8319 1,r1 32767 1,r1 65535 1,r1 131071 1]) rfl (by kernel_rfl) (by kernel_rfl) fun k0=>?_
   refine .y rfl rfl rfl (.a (vs:=[_,_,_,_,_,_]) rfl .hd a_29 s_29 rfl rfl)<|.callV .no rfl rfl rfl rfl rfl (CheckRoom_ok _ _)<|.b rfl rfl rfl rfl<|.m rfl rfl<|.split (t:=18) rfl (fun h7=>?_) (fun h7=>?_)
   ·have kh7:=h7;(try simp only [bk] at kh7)
    refine .k h7<|.k h7<|.k h7<|.ku<|.ku<|.ku<|.ku<|.ku<|.ku<|.ku<|.ku<|.ku<|.k h7<|.q (.pickT rfl h7 rfl)<|.nil<|sq_n<|.condT rfl rfl<|.seq<|.region rfl<|.z rfl rfl<|.nil<|sq_n<|.ret<|bq_r<|sq_r<|lq_r<|bq_r<|sq_r<|Qaa hle2 (.tmp rfl .nil) rfl ?_
    first
     | (refine congrArg (V.i .i64) (roomsE_no (k:=k) (by omega) ?_);simp_all [rgood,Qdu];done)
   ·have kh7:=h7;(try simp only [bk] at kh7)
    refine .py h7 (.move rfl)<|.py h7 (.bin rfl rfl rfl)<|.py h7 (.move rfl)<|.split (t:=21) rfl (fun h8=>?_) (fun h8=>?_)
    ·have kh8:=h8;(try simp only [bk] at kh8)
     refine .py h8 (.move rfl)<|.py h8 (.move rfl)<|.py h8 (.sub rfl rfl (by omega))<|.ixi (.yes rfl rfl h8) rfl rfl h rfl e_25 (by omega) ?_
     intro b9 o9 cs9 y9 hy9 hq9 hr9
     obtain rfl:=hr9
     refine .py h8 (.fa rfl Qca)<|.ld (k:=0) (.yes rfl rfl h8) rfl rfl rfl trivial (.ps 0 rfl hq9 rfl a_3 rfl)<|.py h8 (.fa rfl Qca)<|.ld (k:=0) (.yes rfl rfl h8) rfl rfl rfl trivial (.s rfl .hd a_3 rfl)<|.py h8 (.bin rfl rfl rfl)<|.py h7 (.pickT rfl h8 rfl)<|.q (.pickF rfl h7 rfl)<|.nil<|sq_n<|.cond rfl (fun h10=>?_) (fun h10=>?_)
     ·have kh10:=h10;(try simp only [bk] at kh10)
      refine .seq<|.region rfl<|.z rfl rfl<|.nil<|sq_n<|.ret<|bq_r<|sq_r<|lq_r<|bq_r<|sq_r<|Qaa hle2 (.tmp rfl .nil) rfl ?_
      first
       | (refine congrArg (V.i .i64) (roomsE_no (k:=k) (by omega) ?_);simp_all [rgood,Qdu];omega)
     ·have kh10:=h10;(try simp only [bk] at kh10)
      refine .skip<|bq_n<|sq_n<|.region rfl<|.q (.inc1 rfl rfl (by omega))<|.m rfl rfl<|.nil<|Qac (k+1) ⟨rfl,rfl,rfl,rfl,trivial⟩ (.cons _ (List.Sublist.refl _)) (Le.refl _) ?_ ?_
      ·refine ⟨by omega,by omega,?_,h⟩
       have e:rgood l k=true:=by simp_all [rgood,Qdu];try omega
       simp only [allR,hg,e,Bool.and_self]
      ·omega
    ·have kh8:=h8;(try simp only [bk] at kh8)
     refine .k h8<|.k h8<|.k h8<|.k h8<|.k h8<|.k h8<|.k h8<|.k h8<|.k h8<|.py h7 (.pickF rfl h8 rfl)<|.q (.pickF rfl h7 rfl)<|.nil<|sq_n<|.condF rfl rfl<|.skip<|bq_n<|sq_n<|.region rfl<|.q (.inc1 rfl rfl (by omega))<|.m rfl rfl<|.nil<|Qac (k+1) ⟨rfl,rfl,rfl,rfl,trivial⟩ (.cons _ (List.Sublist.refl _)) (Le.refl _) ?_ ?_
     ·refine ⟨by omega,by omega,?_,h⟩
      have e:rgood l k=true:=by simp_all [rgood,Qdu];try omega
      simp only [allR,hg,e,Bool.and_self]
     ·omega
  ·have kh4:=h4;(try simp only [bk] at kh4)
   refine .exit<|sq_e<|lq_e<|bq_x rfl<|sq_n<|.seq<|.region rfl<|.z rfl rfl<|.nil<|sq_n<|.ret<|Qaa hle2 (.tmp rfl .nil) rfl ?_
   first
    | (refine congrArg (V.i .i64) ?_;unfold Qcp;obtain rfl:k=l.length:=by omega
       rw [if_pos ⟨hl,hg⟩])
end Go.Proofs.YtjflgemfeofciaaGreatDoor
namespace Go.Proofs.YtjflgemfeofciaaGreatDoor
open Go Go.Ev
set_option linter.unusedVariables false
set_option linter.unusedSimpArgs false
set_option maxRecDepth 10000
structure Test where
 of:Int
 how:Int
 num:Int
structure Put where
 group:Int
 tests:List Test
structure Piece where
 fr:Int
 base:Int
 rate:Int
structure Version where
 fr:Int
 puts:List Put
 ln:Nat→List Piece
structure Code where
 name:List UInt8
 vs:List Version
def Test.v (t:Test):List V:=[.i .i64 t.of,.i .i64 t.how,.i .i64 t.num]
def TestR (g:G) (cs:List V) (t:Test):Prop:=cs=t.v
theorem TestR.mono:∀ g g' cs x,Le g g'→TestR g cs x→TestR g' cs x:=fun _ _ _ _ _ h=>h
def PutR (g:G) (cs:List V) (p:Put):Prop:=∃ v,cs=[.i .i64 p.group,v]∧RS TestR 3 g v p.tests
theorem PutR.mono:∀ g g' cs x,Le g g'→PutR g cs x→PutR g' cs x:=fun _ _ _ _ hl ⟨v,h1,h2⟩=>⟨v,h1,h2.mono TestR.mono hl⟩
def Piece.v (t:Piece):List V:=[.i .i64 t.fr,.i .i64 t.base,.i .i64 t.rate]
def PieceR (g:G) (cs:List V) (t:Piece):Prop:=cs=t.v
theorem PieceR.mono:∀ g g' cs x,Le g g'→PieceR g cs x→PieceR g' cs x:=fun _ _ _ _ _ h=>h
def VersionR (g:G) (cs:List V) (v:Version):Prop:=∃ (p:V) (lv:Nat→V),cs=[.i .i64 v.fr,p,lv 0,lv 1,lv 2,lv 3,lv 4,lv 5,lv 6,lv 7,lv 8,lv 9]∧RS PutR 2 g p v.puts∧∀ k,k < 10→RS PieceR 3 g (lv k) (v.ln k)
theorem VersionR.mono:∀ g g' cs x,Le g g'→VersionR g cs x→VersionR g' cs x:=fun _ _ _ _ hl ⟨p,lv,h1,h2,h3⟩=>⟨p,lv,h1,h2.mono PutR.mono hl,fun k hk=>(h3 k hk).mono PieceR.mono hl⟩
def CodeR (g:G) (cs:List V) (c:Code):Prop:=∃ v,cs=[.s c.name,v]∧RS VersionR 12 g v c.vs
theorem CodeR.mono:∀ g g' cs x,Le g g'→CodeR g cs x→CodeR g' cs x:=fun _ _ _ _ hl ⟨v,h1,h2⟩=>⟨v,h1,h2.mono VersionR.mono hl⟩
def Test.ok (t:Test):Bool:=Qae t.of 1 3 && (Qae t.how 1 6 && Qae t.num 0 1000)
def Put.ok (p:Put):Bool:=Qae p.group 0 5 && (decide (p.tests.length≤4) && p.tests.all Test.ok)
theorem isTest_ok (t:Test) (g:G):Fv Tryz.prog natS (.f 165 [] []) [.agg t.v] g (.b t.ok):=by
 refine Fw.fv ?_
 refine Fw.enter (N:=16) (al:=[(0,_)]) Tryz.func165 (by kernel_rfl) (by kernel_rfl) rfl rfl rfl rfl ?_
 intro B
 refine .seq<|.region rfl<|.box .no rfl rfl rfl rfl fun b1=>.z rfl rfl<|.nil<|sq_n<|.seq<|.region rfl<|.q (.fa rfl f_172_0)<|.w (.s rfl .hd a_3 rfl)<|.callV .no rfl rfl rfl (Qai _ _ _ _)<|.m rfl rfl<|.split (t:=6) rfl (fun h2=>?_) (fun h2=>?_)
 ·have kh2:=h2;(try simp only [bk] at kh2)
  refine .py h2 (.fa rfl Qdw)<|.wy h2 (.s rfl .hd a_3 rfl)<|.callV (.yes rfl rfl h2) rfl rfl rfl (Qai _ _ _ _)<|.q (.pickT rfl h2 rfl)<|.m rfl rfl<|.split (t:=11) rfl (fun h3=>?_) (fun h3=>?_)
  ·have kh3:=h3;(try simp only [bk] at kh3)
   refine .py h3 (.fa rfl Qag)<|.wy h3 (.s rfl .hd a_3 rfl)<|.callV (.yes rfl rfl h3) rfl rfl rfl (Qai _ _ _ _)<|.q (.pickT rfl h3 rfl)<|.z rfl rfl<|.nil<|sq_n<|.ret<|Qaa (Le.refl _) (.tmp rfl .nil) rfl ?_
   first | rfl | (simp_all [Test.ok];done)
  ·have kh3:=h3;(try simp only [bk] at kh3)
   refine .k h3<|.k h3<|.k h3<|.q (.pickF rfl h3 rfl)<|.z rfl rfl<|.nil<|sq_n<|.ret<|Qaa (Le.refl _) (.tmp rfl .nil) rfl ?_
   first | rfl | (simp_all [Test.ok];done)
 ·have kh2:=h2;(try simp only [bk] at kh2)
  refine .k h2<|.k h2<|.k h2<|.q (.pickF rfl h2 rfl)<|.m rfl rfl<|.k rfl<|.k rfl<|.k rfl<|.q (.pickF rfl rfl rfl)<|.z rfl rfl<|.nil<|sq_n<|.ret<|Qaa (Le.refl _) (.tmp rfl .nil) rfl ?_
  first | rfl | (simp_all [Test.ok];done)
theorem isPut1_ok (t:Test) (g:G):Fv Tryz.prog natS (.f 164 [] []) [.agg t.v] g (.b (!t.ok)):=by
 refine Fw.fv ?_
 refine Fw.enter (N:=6) (al:=[(0,_)]) Tryz.func164 (by kernel_rfl) (by kernel_rfl) rfl rfl rfl rfl ?_
 intro B
 refine .seq<|.region rfl<|.box .no rfl rfl rfl rfl fun b1=>.z rfl rfl<|.nil<|sq_n<|.seq<|.region rfl<|.w (.a (vs:=[_,_,_]) rfl .hd a_172 s_172 rfl rfl)<|.callV .no rfl rfl rfl (isTest_ok _ _)<|.q (.not rfl)<|.z rfl rfl<|.nil<|sq_n<|.ret<|Qaa (Le.refl _) (.tmp rfl .nil) rfl ?_
 rfl
def fidx {α:Type} (p:α→Bool):List α→Nat→Int
 | [],_=> -1
 | x :: l,i=>if p x then (i:Int) else fidx p l (i+1)
theorem fidx_any {α:Type} (p:α→Bool):∀ (l:List α) (i:Nat),decide (0≤fidx p l i)=l.any p
 | [],i=>by simp [fidx]
 | x :: l,i=>by
   unfold fidx
   cases h:p x with
   | true=>simp [h]
   | false=>simp [h,fidx_any p l (i+1)]
theorem IndexFuncT_ok (l:List Test) (v f:V) (p:Test→Bool) (hf:∀ t g,Fv Tryz.prog natS f [.agg (Test.v t)] g (.b (p t))) (g:G) (h:RS TestR 3 g v l):Fv Tryz.prog natS (.f 178 [] []) [v,f] g (.i .i64 (fidx p l 0)):=by
 refine Fw.fv ?_
 have hlen:=h.1
 refine Fw.enter (N:=19) (al:=[(1,_),(0,_)]) Tryz.func178 (by kernel_rfl) (by kernel_rfl) rfl rfl rfl rfl ?_
 intro B
 refine .seq<|.region rfl<|.z rfl rfl<|.nil<|sq_n<|.seq<|.seq<|.region rfl<|.m rfl rfl<|.q (.lenR rfl rfl rfl e_168 h)<|.m rfl rfl<|.nil<|sq_n<|.block<|.loopx (α:=Nat) [(0,_),(1,_),(7,_)] _ (fun fx k=>(8,.i .i64 (k:Int)) :: fx) (fun mx _=>mx) (fun k g'=>k≤l.length∧fidx p (l.drop k) k=fidx p l 0∧RS TestR 3 g' v l) (fun k=>l.length - k) (0) ⟨rfl,rfl,rfl,rfl,trivial⟩ (List.Sublist.refl _) ⟨by omega,rfl,h⟩ ?_
 intro k g2 hle1 hJ
 obtain ⟨hk,hg,h⟩:=hJ
 refine .seq<|.region rfl<|.b rfl rfl rfl rfl<|.nil<|sq_n<|.seq<|.cond rfl (fun h3=>?_) (fun h3=>?_)
 ·have kh3:=h3;(try simp only [bk] at kh3)
  refine .skip<|sq_n<|.seq<|.block<|.seq<|.region rfl<|.m rfl rfl<|.z rfl rfl<|.nil<|sq_n<|.seq<|.region rfl<|.m rfl rfl<|.m rfl rfl<|.m rfl rfl<|.ixn .no rfl rfl h rfl e_168 (by omega) ?_
  intro b4 o4 cs4 y4 hy4 hq4 hr4
  obtain rfl:=hr4
  refine .w (.pa 0 (vs:=[_,_,_]) rfl hq4 rfl a_172 s_172 rfl rfl)<|.callV .no rfl rfl rfl (hf _ _)<|.nil<|sq_n<|.cond rfl (fun h5=>?_) (fun h5=>?_)
  ·have kh5:=h5;(try simp only [bk] at kh5)
   refine .seq<|.region rfl<|.m rfl rfl<|.z rfl rfl<|.nil<|sq_n<|.ret<|bq_r<|sq_r<|lq_r<|bq_r<|sq_r<|Qaa hle1 (.tmp rfl .nil) rfl ?_
   first | (rw [←hg,dc (k:=k) ‹_›];simp_all [fidx];done) | (rw [←hg,dn (by omega)];rfl)
  ·have kh5:=h5;(try simp only [bk] at kh5)
   refine .skip<|bq_n<|sq_n<|.region rfl<|.q (.inc1 rfl rfl (by omega))<|.m rfl rfl<|.nil<|Qac (k+1) ⟨rfl,rfl,rfl,rfl,trivial⟩ (List.Sublist.refl _) (Le.refl _) ?_ ?_
   ·refine ⟨by omega,?_,h⟩;rw [←hg,dc (k:=k) ‹_›];simp_all [fidx]
   ·omega
 ·have kh3:=h3;(try simp only [bk] at kh3)
  refine .exit<|sq_e<|lq_e<|bq_x rfl<|sq_n<|.seq<|.region rfl<|.z rfl rfl<|.nil<|sq_n<|.ret<|Qaa hle1 (.tmp rfl .nil) rfl ?_
  first | (rw [←hg,dc (k:=k) ‹_›];simp_all [fidx];done) | (rw [←hg,dn (by omega)];rfl)
theorem ContainsFuncT_ok (l:List Test) (v f:V) (p:Test→Bool) (hf:∀ t g,Fv Tryz.prog natS f [.agg (Test.v t)] g (.b (p t))) (g:G) (h:RS TestR 3 g v l):Fv Tryz.prog natS (.f 163 [] []) [v,f] g (.b (l.any p)):=by
 refine Fw.fv ?_
 refine Fw.enter (N:=9) (al:=[(1,_),(0,_)]) Tryz.func163 (by kernel_rfl) (by kernel_rfl) rfl rfl rfl rfl ?_
 intro B
 refine .seq<|.region rfl<|.z rfl rfl<|.nil<|sq_n<|.seq<|.region rfl<|.m rfl rfl<|.m rfl rfl<|.callV .no rfl rfl rfl (IndexFuncT_ok _ _ _ p hf _ h)<|.b rfl rfl rfl rfl<|.z rfl rfl<|.nil<|sq_n<|.ret<|Qaa (Le.refl _) (.tmp rfl .nil) rfl ?_
 rw [←fidx_any p l 0]
theorem isPut_ok (p:Put) (cs:List V) (g:G) (h:PutR g cs p):Fv Tryz.prog natS (.f 127 [] []) [.agg cs] g (.b p.ok):=by
 obtain ⟨v,rfl,h⟩:=h
 refine Fw.fv ?_
 refine Fw.enter (N:=18) (al:=[(0,_)]) Tryz.func127 (by kernel_rfl) (by kernel_rfl) rfl rfl rfl rfl ?_
 intro B
 refine .seq<|.region rfl<|.box .no rfl rfl rfl rfl fun b1=>.z rfl rfl<|.nil<|sq_n<|.seq<|.region rfl<|.q (.fa rfl f_170_0)<|.w (.s rfl .hd a_3 rfl)<|.callV .no rfl rfl rfl (Qai _ _ _ _)<|.m rfl rfl<|.split (t:=6) rfl (fun h2=>?_) (fun h2=>?_)
 ·have kh2:=h2;(try simp only [bk] at kh2)
  refine .py h2 (.fa rfl f_170_1)<|.wy h2 (.s rfl .hd a_168 rfl)<|.py h2 (.lenR rfl rfl rfl e_168 h)<|.py h2 (.bin rfl rfl rfl)<|.q (.pickT rfl h2 rfl)<|.m rfl rfl<|.split (t:=12) rfl (fun h3=>?_) (fun h3=>?_)
  ·have kh3:=h3;(try simp only [bk] at kh3)
   refine .py h3 (.fa rfl f_170_1)<|.wy h3 (.s rfl .hd a_168 rfl)<|.callV (.yes rfl rfl h3) rfl rfl rfl (ContainsFuncT_ok _ _ _ _ isPut1_ok _ h)<|.py h3 (.not rfl)<|.q (.pickT rfl h3 rfl)<|.z rfl rfl<|.nil<|sq_n<|.ret<|Qaa (Le.refl _) (.tmp rfl .nil) rfl ?_
   simp_all [Put.ok,List.all_eq_not_any_not];try omega
  ·have kh3:=h3;(try simp only [bk] at kh3)
   refine .k h3<|.k h3<|.k h3<|.k h3<|.q (.pickF rfl h3 rfl)<|.z rfl rfl<|.nil<|sq_n<|.ret<|Qaa (Le.refl _) (.tmp rfl .nil) rfl ?_
   simp_all [Put.ok,List.all_eq_not_any_not];try omega
 ·have kh2:=h2;(try simp only [bk] at kh2)
  refine .k h2<|.k h2<|.k h2<|.k h2<|.q (.pickF rfl h2 rfl)<|.m rfl rfl<|.k rfl<|.k rfl<|.k rfl<|.k rfl<|.q (.pickF rfl rfl rfl)<|.z rfl rfl<|.nil<|sq_n<|.ret<|Qaa (Le.refl _) (.tmp rfl .nil) rfl ?_
  simp_all [Put.ok,List.all_eq_not_any_not];try omega
theorem rIsPut_ok (p:Put) (cs:List V) (g:G) (h:PutR g cs p):Fv Tryz.prog natS (.f 129 [] []) [.agg cs] g (.b p.ok):=by
 obtain ⟨v,rfl,h⟩:=h
 refine Fw.fv ?_
 have hlen:=h.1
 refine Fw.enter (N:=43) (al:=[(0,_)]) Tryz.func129 (by kernel_rfl) (by kernel_rfl) rfl rfl rfl rfl ?_
 intro B
 refine .seq<|.region rfl<|.box .no rfl rfl rfl rfl fun b1=>.z rfl rfl<|.nil<|sq_n<|.seq<|.seq<|.region rfl<|.q (.fa rfl f_170_0)<|.w (.s rfl .hd a_3 rfl)<|.callV .no rfl rfl rfl (in_ok _ _ _ _)<|.q (.not rfl)<|.m rfl rfl<|.split (t:=9) rfl (fun h2=>?_) (fun h2=>?_)
 ·have kh2:=h2;(try simp only [bk] at kh2)
  refine .k h2<|.k h2<|.k h2<|.k h2<|.q (.pickT rfl h2 rfl)<|.nil<|sq_n<|.condT rfl rfl<|.seq<|.region rfl<|.z rfl rfl<|.nil<|sq_n<|.ret<|sq_r<|Qaa (Le.refl _) (.tmp rfl .nil) rfl ?_
  first | (simp_all [Put.ok];done) | (simp_all [Put.ok];omega) | (refine congrArg V.b ?_;unfold Put.ok;rw [←hg,dc (k:=k) ‹_›,h1];simp_all [Test.ok];done) | (refine congrArg V.b ?_;unfold Put.ok;rw [←hg,dn (by omega),h1];simp_all)
 ·have kh2:=h2;(try simp only [bk] at kh2)
  refine .py h2 (.fa rfl f_170_1)<|.wy h2 (.s rfl .hd a_168 rfl)<|.py h2 (.lenR rfl rfl rfl e_168 h)<|.py h2 (.bin rfl rfl rfl)<|.q (.pickF rfl h2 rfl)<|.nil<|sq_n<|.cond rfl (fun h3=>?_) (fun h3=>?_)
  ·have kh3:=h3;(try simp only [bk] at kh3)
   refine .seq<|.region rfl<|.z rfl rfl<|.nil<|sq_n<|.ret<|sq_r<|Qaa (Le.refl _) (.tmp rfl .nil) rfl ?_
   first | (simp_all [Put.ok];done) | (simp_all [Put.ok];omega) | (refine congrArg V.b ?_;unfold Put.ok;rw [←hg,dc (k:=k) ‹_›,h1];simp_all [Test.ok];done) | (refine congrArg V.b ?_;unfold Put.ok;rw [←hg,dn (by omega),h1];simp_all)
  ·have kh3:=h3;(try simp only [bk] at kh3)
   refine .skip<|sq_n<|.seq<|.seq<|.region rfl<|.z rfl rfl<|.nil<|sq_n<|.block<|.loopx (α:=Nat) [(1,_)] _ (fun fx k=>(3,.i .i64 (k:Int)) :: fx) (fun mx _=>mx) (fun k g'=>k≤p.tests.length∧Qae p.group 0 5=true∧p.tests.length≤4∧(p.tests.drop k).all Test.ok=p.tests.all Test.ok∧RS TestR 3 g' v p.tests) (fun k=>p.tests.length - k) (0) ⟨rfl,rfl,trivial⟩ (List.Sublist.refl _) ⟨by omega,by simp_all,by omega,rfl,h⟩ ?_
   intro k g5 hle4 hJ
   obtain ⟨hk,h1,h2,hg,h⟩:=hJ
   refine .seq<|.seq<|.region rfl<|.m rfl rfl<|.q (.fa rfl f_170_1)<|.w (.s rfl .hd a_168 rfl)<|.q (.lenR rfl rfl rfl e_168 h)<|.b rfl rfl rfl rfl<|.nil<|sq_n<|.cond rfl (fun h6=>?_) (fun h6=>?_)
   ·have kh6:=h6;(try simp only [bk] at kh6)
    refine .skip<|sq_n<|.seq<|.block<|.seq<|.region rfl<|.q (.fa rfl f_170_1)<|.w (.s rfl .hd a_168 rfl)<|.m rfl rfl<|.ixn .no rfl rfl h rfl e_168 (by omega) ?_
    intro b7 o7 cs7 y7 hy7 hq7 hr7
    obtain rfl:=hr7
    refine .w (.pa 0 (vs:=[_,_,_]) rfl hq7 rfl a_172 s_172 rfl rfl)<|.alloc .no rfl z_172 fun b8=>.st (cs':=[_,_,_]) .no rfl rfl rfl rfl s_172 rfl rfl .hd rfl rfl<|.nil<|sq_n<|.seq<|.region rfl<|.q (.fa rfl f_172_0)<|.w (.s rfl .hd a_3 rfl)<|.callV .no rfl rfl rfl (in_ok _ _ _ _)<|.q (.not rfl)<|.m rfl rfl<|.split (t:=31) rfl (fun h9=>?_) (fun h9=>?_)
    ·have kh9:=h9;(try simp only [bk] at kh9)
     refine .k h9<|.k h9<|.k h9<|.k h9<|.q (.pickT rfl h9 rfl)<|.m rfl rfl<|.k rfl<|.k rfl<|.k rfl<|.k rfl<|.q (.pickT rfl rfl rfl)<|.nil<|sq_n<|.condT rfl rfl<|.seq<|.region rfl<|.z rfl rfl<|.nil<|sq_n<|.ret<|bq_r<|sq_r<|lq_r<|bq_r<|sq_r<|Qaa hle4 (.tmp rfl .nil) rfl ?_
     first | (simp_all [Put.ok];done) | (simp_all [Put.ok];omega) | (refine congrArg V.b ?_;unfold Put.ok;rw [←hg,dc (k:=k) ‹_›,h1];simp_all [Test.ok];done) | (refine congrArg V.b ?_;unfold Put.ok;rw [←hg,dn (by omega),h1];simp_all)
    ·have kh9:=h9;(try simp only [bk] at kh9)
     refine .py h9 (.fa rfl Qdw)<|.wy h9 (.s rfl .hd a_3 rfl)<|.callV (.yes rfl rfl h9) rfl rfl rfl (in_ok _ _ _ _)<|.py h9 (.not rfl)<|.q (.pickF rfl h9 rfl)<|.m rfl rfl<|.split (t:=37) rfl (fun h10=>?_) (fun h10=>?_)
     ·have kh10:=h10;(try simp only [bk] at kh10)
      refine .k h10<|.k h10<|.k h10<|.k h10<|.q (.pickT rfl h10 rfl)<|.nil<|sq_n<|.condT rfl rfl<|.seq<|.region rfl<|.z rfl rfl<|.nil<|sq_n<|.ret<|bq_r<|sq_r<|lq_r<|bq_r<|sq_r<|Qaa hle4 (.tmp rfl .nil) rfl ?_
      first | (simp_all [Put.ok];done) | (simp_all [Put.ok];omega) | (refine congrArg V.b ?_;unfold Put.ok;rw [←hg,dc (k:=k) ‹_›,h1];simp_all [Test.ok];done) | (refine congrArg V.b ?_;unfold Put.ok;rw [←hg,dn (by omega),h1];simp_all)
     ·have kh10:=h10;(try simp only [bk] at kh10)
      refine .py h10 (.fa rfl Qag)<|.wy h10 (.s rfl .hd a_3 rfl)<|.callV (.yes rfl rfl h10) rfl rfl rfl (in_ok _ _ _ _)<|.py h10 (.not rfl)<|.q (.pickF rfl h10 rfl)<|.nil<|sq_n<|.cond rfl (fun h11=>?_) (fun h11=>?_)
      ·have kh11:=h11;(try simp only [bk] at kh11)
       refine .seq<|.region rfl<|.z rfl rfl<|.nil<|sq_n<|.ret<|bq_r<|sq_r<|lq_r<|bq_r<|sq_r<|Qaa hle4 (.tmp rfl .nil) rfl ?_
       first | (simp_all [Put.ok];done) | (simp_all [Put.ok];omega) | (refine congrArg V.b ?_;unfold Put.ok;rw [←hg,dc (k:=k) ‹_›,h1];simp_all [Test.ok];done) | (refine congrArg V.b ?_;unfold Put.ok;rw [←hg,dn (by omega),h1];simp_all)
      ·have kh11:=h11;(try simp only [bk] at kh11)
       refine .skip<|bq_n<|sq_n<|.region rfl<|.m rfl rfl<|.q (.inc1 rfl rfl (by omega))<|.z rfl rfl<|.nil<|Qac (k+1) ⟨rfl,rfl,trivial⟩ (.cons _ (List.Sublist.refl _)) (Le.refl _) ?_ ?_
       ·refine ⟨by omega,h1,h2,?_,h⟩;rw [←hg,dc (k:=k) ‹_›];simp_all [Test.ok]
       ·omega
   ·have kh6:=h6;(try simp only [bk] at kh6)
    refine .exit<|sq_e<|lq_e<|bq_x rfl<|sq_n<|.seq<|.region rfl<|.z rfl rfl<|.nil<|sq_n<|.ret<|Qaa hle4 (.tmp rfl .nil) rfl ?_
    first | (simp_all [Put.ok];done) | (simp_all [Put.ok];omega) | (refine congrArg V.b ?_;unfold Put.ok;rw [←hg,dc (k:=k) ‹_›,h1];simp_all [Test.ok];done) | (refine congrArg V.b ?_;unfold Put.ok;rw [←hg,dn (by omega),h1];simp_all)
end Go.Proofs.YtjflgemfeofciaaGreatDoor
