import Derived.Test.YtjflgemfeofciaaGreatDoorME3
import Derived.Lib.Atoi
import Derived.Lib.ItoaNum
import Derived.Lib.Bytealg
namespace Go.Ev
open Go
set_option linter.unusedVariables false
set_option linter.unusedSimpArgs false
noncomputable def digK (n:Nat):Nat→List UInt8→List UInt8:=Nat.rec (fun _ s=>s) (fun _ ih m s=>if m < 10 then UInt8.ofNat (48+m) :: s else ih (m / 10) (UInt8.ofNat (48+m % 10) :: s)) n
noncomputable def itoaK (n:Int):List UInt8:=if n < 0 then 45 :: digK 25 n.natAbs [] else digK 25 n.natAbs []
noncomputable def atoiD (l:List UInt8):Nat→Option Nat:=List.rec (fun a=>some a) (fun c _ ih a=>if 48≤c.toNat∧c.toNat≤57 then ih (a * 10+(c.toNat - 48)) else none) l
noncomputable def atoiN:List UInt8→Option Nat
 | []=>none
 | b :: r=>atoiD (b :: r) 0
noncomputable def atoiK:List UInt8→Option Int
 | []=>none
 | b :: r=>if b=45 then (match atoiN r with | some n=>some (-(n:Int)) | none=>none) else if b=43 then none else (match atoiN (b :: r) with | some n=>some (n:Int) | none=>none)
noncomputable def cntK (c:UInt8) (l:List UInt8):Nat:=List.rec 0 (fun x _ ih=>if x=c then ih+1 else ih) l
noncomputable def ixK (c:UInt8) (l:List UInt8):Nat→Int:=List.rec (fun _=>(-1:Int)) (fun x _ ih n=>if x=c then (n:Int) else ih (n+1)) l
theorem digK_eq:∀ (f m:Nat) (s:List UInt8),m < 10 ^ f→0 < f→digK f m s=Lib.decDigits m ++ s
 | 0,_,_,_,h=>absurd h (Nat.lt_irrefl _)
 | f+1,m,s,h,_=>by
   have hs:digK (f+1) m s=if m < 10 then UInt8.ofNat (48+m) :: s else digK f (m / 10) (UInt8.ofNat (48+m % 10) :: s):=rfl
   rw [hs,Lib.decDigits]
   by_cases hm:m < 10
   ·rw [if_pos hm,dif_pos hm];rfl
   ·rw [if_neg hm,dif_neg hm]
    have hf:0 < f:=by
     rcases Nat.eq_zero_or_pos f with h0 | h0
     ·subst h0;omega
     ·exact h0
    have hlt:m / 10 < 10 ^ f:=by
     rw [Nat.div_lt_iff_lt_mul (by omega)]
     rw [Nat.pow_succ] at h
     exact h
    rw [digK_eq f (m / 10) _ hlt hf,List.append_assoc]
    rfl
theorem itoaK_eq (n:Int) (h0: -9223372036854775808≤n) (h1:n≤9223372036854775807):itoaK n=Lib.itoa n:=by
 have h:n.natAbs < 10 ^ 25:=by omega
 unfold itoaK Lib.itoa
 rw [digK_eq 25 _ _ h (by omega),List.append_nil]
 split
 ·rfl
 ·rw [show n.natAbs=n.toNat by omega]
theorem atoiD_eq:∀ (l:List UInt8) (a:Nat),atoiD l a=Lib.decFrom a l
 | [],a=>rfl
 | b :: l,a=>by
   have hs:atoiD (b :: l) a=if 48≤b.toNat∧b.toNat≤57 then atoiD l (a * 10+(b.toNat - 48)) else none:=rfl
   rw [hs]
   unfold Lib.decFrom Lib.digitVal
   by_cases h:48≤b.toNat∧b.toNat≤57
   ·rw [if_pos h,if_pos h];exact atoiD_eq l _
   ·rw [if_neg h,if_neg h]
theorem atoiN_eq (l:List UInt8):atoiN l=Lib.decNat l:=by
 cases l with
 | nil=>rfl
 | cons b r=>exact atoiD_eq (b :: r) 0
theorem atoiK_some {l:List UInt8} {n:Int} (h:atoiK l=some n):Lib.atoi l=some n:=by
 unfold atoiK at h
 unfold Lib.atoi
 split at h
 ·cases h
 ·rename_i b r
  by_cases h1:b=45
  ·rw [if_pos h1,atoiN_eq] at h
   simp only [h1,beq_self_eq_true,if_true]
   cases hd:Lib.decNat r with
   | none=>rw [hd] at h;cases h
   | some m=>rw [hd] at h;cases h;rfl
  ·rw [if_neg h1] at h
   by_cases h2:b=43
   · rw [if_pos h2] at h;cases h
   · rw [if_neg h2,atoiN_eq] at h
     simp only [beq_iff_eq,h1,h2,if_false]
     cases hd:Lib.decNat (b :: r) with
     | none=>rw [hd] at h;cases h
     | some m=>rw [hd] at h;cases h;rfl
theorem cntK_eq (c:UInt8):∀ l:List UInt8,cntK c l=Lib.countByte l c
 | []=>rfl
 | x :: l=>by
   have hs:cntK c (x :: l)=if x=c then cntK c l+1 else cntK c l:=rfl
   rw [hs,cntK_eq c l]
   unfold Lib.countByte
   rw [List.count_cons]
   by_cases h:x=c
   ·rw [if_pos h,if_pos (by simp [h])]
   ·rw [if_neg h,if_neg (by simp [h])];rfl
theorem ixK_eq (c:UInt8):∀ (l:List UInt8) (n:Nat),ixK c l n=if Lib.indexByte l c= -1 then -1 else Lib.indexByte l c+n
 | [],n=>rfl
 | x :: l,n=>by
   have hs:ixK c (x :: l) n=if x=c then (n:Int) else ixK c l (n+1):=rfl
   have hu:Lib.indexByte (x :: l) c=if x == c then 0 else if Lib.indexByte l c == -1 then -1 else Lib.indexByte l c+1:=by rw [Lib.indexByte]
   rw [hs,ixK_eq c l,hu]
   have:=Lib.indexByte_ge l c
   generalize Lib.indexByte l c=y at this ⊢
   by_cases h:x=c
   ·simp [h]
   ·by_cases h2:y= -1
    ·simp [h,h2]
    ·rw [if_neg h,if_neg h2,if_neg (show ¬ (x == c)=true by simpa using h),if_neg (show ¬ (y == -1)=true by simpa using h2),if_neg (by omega)]
     push_cast
     omega
theorem ixK_zero (c:UInt8) (l:List UInt8):ixK c l 0=Lib.indexByte l c:=by
 rw [ixK_eq]
 split
 ·rename_i h;rw [h]
 ·simp
noncomputable def itoaN:List V→Option V
 | [.i .i64 n]=>if -9223372036854775808≤n∧n≤9223372036854775807 then some (.s (itoaK n)) else none
 | _=>none
noncomputable def atoiV:List V→Option V
 | [.s l]=>if llen l≤18 then (match atoiK l with | some n=>some (.tup [.i .i64 n,.ni]) | none=>none) else none
 | _=>none
noncomputable def cntN:List V→Option V
 | [.s l,.i .u8 c]=>some (.i .i64 (cntK c.toNat.toUInt8 l))
 | _=>none
noncomputable def ixN:List V→Option V
 | [.s l,.i .u8 c]=>some (.i .i64 (ixK c.toNat.toUInt8 l 0))
 | _=>none
end Go.Ev
