import Derived.Calls
import Derived.RunT
import Derived.Laws.Tables
import Derived.Laws.Rows
import Derived.Below
import Derived.Laws.Entries
import Derived.Laws.Concat
import Derived.Laws.StructEq
import Derived.ChangeKeysEq
import Derived.Laws.Strings
import Derived.Laws.Slices
import Derived.Laws.CopyRow
import Derived.Laws.MakeOwn
import Derived.Laws.AppendOwn
import Derived.Laws.Append
namespace Go.Ev
open Go
set_option linter.unusedVariables false
inductive TT (α:Type) where
 | lf
 | nd (l:TT α) (v:Option α) (r:TT α)
noncomputable def TT.get {α:Type} (t:TT α):Nat→Option α:=
 TT.rec (motive:=fun _=>Nat→Option α) (fun _=>none) (fun _ v _ gl gr n=>Bool.rec (Bool.rec (gr (n / 2 - 1)) (gl (n / 2)) (Nat.beq (n % 2) 1)) v (Nat.beq n 0)) t
noncomputable def TT.set1 {α:Type} (k:Nat):Nat→α→TT α:=
 Nat.rec (motive:=fun _=>Nat→α→TT α) (fun _ _=>.lf) (fun _ ih n b=>Bool.rec (Bool.rec (.nd .lf none (ih (n / 2 - 1) b)) (.nd (ih (n / 2) b) none .lf) (Nat.beq (n % 2) 1)) (.nd .lf (some b) .lf) (Nat.beq n 0)) k
noncomputable def TT.set {α:Type} (t:TT α):Nat→α→TT α:=
 TT.rec (motive:=fun _=>Nat→α→TT α) (fun n b=>TT.set1 (n+1) n b) (fun l v r sl sr n b=>Bool.rec (Bool.rec (.nd l v (sr (n / 2 - 1) b)) (.nd (sl (n / 2) b) v r) (Nat.beq (n % 2) 1)) (.nd l (some b) r) (Nat.beq n 0)) t
noncomputable def lget {α:Type} (l:List α):Nat→Option α:=
 List.rec (motive:=fun _=>Nat→Option α) (fun _=>none) (fun a _ ih n=>Nat.rec (some a) (fun m _=>ih m) n) l
noncomputable def ldrop {α:Type} (l:List α):Nat→List α:=
 List.rec (motive:=fun _=>Nat→List α) (fun _=>[]) (fun a t ih n=>Nat.rec (a :: t) (fun m _=>ih m) n) l
noncomputable def ltake {α:Type} (l:List α):Nat→List α:=
 List.rec (motive:=fun _=>Nat→List α) (fun _=>[]) (fun a _ ih n=>Nat.rec [] (fun m _=>a :: ih m) n) l
noncomputable def lapp {α:Type} (l m:List α):List α:=List.rec m (fun a _ ih=>a :: ih) l
noncomputable def lmap {α β:Type} (f:α→β) (l:List α):List β:=List.rec [] (fun a _ ih=>f a :: ih) l
noncomputable def llen {α:Type} (l:List α):Nat:=List.rec 0 (fun _ _ ih=>Nat.succ ih) l
theorem TT.get_nd {α:Type} (l:TT α) (v:Option α) (r:TT α) (n:Nat):(TT.nd l v r).get n=if n=0 then v else if n % 2=1 then l.get (n / 2) else r.get (n / 2 - 1):=by
 show Bool.rec (motive:=fun _=>Option α) (Bool.rec (motive:=fun _=>Option α) (r.get (n / 2 - 1)) (l.get (n / 2)) (Nat.beq (n % 2) 1)) v (Nat.beq n 0)=_
 by_cases h:n=0
 ·subst h;rfl
 ·have e:Nat.beq n 0=false:=by cases hb:Nat.beq n 0 with | false=>rfl | true=>exact absurd (Nat.eq_of_beq_eq_true hb) h
  rw [e,if_neg h]
  by_cases h2:n % 2=1
  ·rw [if_pos h2,h2];rfl
  ·have e2:Nat.beq (n % 2) 1=false:=by cases hb:Nat.beq (n % 2) 1 with | false=>rfl | true=>exact absurd (Nat.eq_of_beq_eq_true hb) h2
   rw [if_neg h2,e2]
theorem TT.get_lf {α:Type} (n:Nat):(TT.lf:TT α).get n=none:=rfl
theorem TT.set1_succ {α:Type} (k n:Nat) (b:α):TT.set1 (k+1) n b=if n=0 then .nd .lf (some b) .lf else if n % 2=1 then .nd (TT.set1 k (n / 2) b) none .lf else .nd .lf none (TT.set1 k (n / 2 - 1) b):=by
 show Bool.rec (motive:=fun _=>TT α) (Bool.rec (motive:=fun _=>TT α) (TT.nd .lf none (TT.set1 k (n / 2 - 1) b)) (.nd (TT.set1 k (n / 2) b) none .lf) (Nat.beq (n % 2) 1)) (.nd .lf (some b) .lf) (Nat.beq n 0)=_
 by_cases h:n=0
 ·subst h;rfl
 ·have e:Nat.beq n 0=false:=by cases hb:Nat.beq n 0 with | false=>rfl | true=>exact absurd (Nat.eq_of_beq_eq_true hb) h
  rw [e,if_neg h]
  by_cases h2:n % 2=1
  ·rw [if_pos h2,h2];rfl
  ·have e2:Nat.beq (n % 2) 1=false:=by cases hb:Nat.beq (n % 2) 1 with | false=>rfl | true=>exact absurd (Nat.eq_of_beq_eq_true hb) h2
   rw [if_neg h2,e2]
theorem TT.set_lf {α:Type} (n:Nat) (b:α):(TT.lf:TT α).set n b=TT.set1 (n+1) n b:=rfl
theorem TT.set_nd {α:Type} (l:TT α) (v:Option α) (r:TT α) (n:Nat) (b:α):(TT.nd l v r).set n b=if n=0 then .nd l (some b) r else if n % 2=1 then .nd (l.set (n / 2) b) v r else .nd l v (r.set (n / 2 - 1) b):=by
 show Bool.rec (motive:=fun _=>TT α) (Bool.rec (motive:=fun _=>TT α) (TT.nd l v (r.set (n / 2 - 1) b)) (.nd (l.set (n / 2) b) v r) (Nat.beq (n % 2) 1)) (.nd l (some b) r) (Nat.beq n 0)=_
 by_cases h:n=0
 ·subst h;rfl
 ·have e:Nat.beq n 0=false:=by cases hb:Nat.beq n 0 with | false=>rfl | true=>exact absurd (Nat.eq_of_beq_eq_true hb) h
  rw [e,if_neg h]
  by_cases h2:n % 2=1
  ·rw [if_pos h2,h2];rfl
  ·have e2:Nat.beq (n % 2) 1=false:=by cases hb:Nat.beq (n % 2) 1 with | false=>rfl | true=>exact absurd (Nat.eq_of_beq_eq_true hb) h2
   rw [if_neg h2,e2]
theorem TT.get_set1 {α:Type} (b:α):∀ (k n m:Nat),n < k→(TT.set1 k n b).get m=if m=n then some b else none:=by
 intro k
 induction k with
 | zero=>intro n m h;omega
 | succ k ih=>
   intro n m h
   rw [TT.set1_succ]
   by_cases hn:n=0
   ·subst hn
    rw [if_pos rfl,TT.get_nd]
    by_cases hm:m=0
    ·rw [if_pos hm,if_pos hm]
    ·rw [if_neg hm,if_neg hm];split <;> rfl
   ·rw [if_neg hn]
    by_cases h2:n % 2=1
    ·rw [if_pos h2,TT.get_nd]
     by_cases hm:m=0
     ·rw [if_pos hm,if_neg (by omega)]
     ·rw [if_neg hm]
      by_cases hm2:m % 2=1
      ·rw [if_pos hm2,ih _ _ (by omega)]
       by_cases e:m=n
       ·rw [if_pos (by rw [e]),if_pos e]
       ·rw [if_neg (by omega),if_neg e]
      ·rw [if_neg hm2,if_neg (by intro e;subst e;omega),TT.get_lf]
    ·rw [if_neg h2,TT.get_nd]
     by_cases hm:m=0
     ·rw [if_pos hm,if_neg (by omega)]
     ·rw [if_neg hm]
      by_cases hm2:m % 2=1
      ·rw [if_pos hm2,if_neg (by intro e;subst e;omega),TT.get_lf]
      ·rw [if_neg hm2,ih _ _ (by omega)]
       by_cases e:m=n
       ·rw [if_pos (by rw [e]),if_pos e]
       ·rw [if_neg (by omega),if_neg e]
theorem TT.get_set {α:Type} (b:α):∀ (t:TT α) (n m:Nat),(t.set n b).get m=if m=n then some b else t.get m:=by
 intro t
 induction t with
 | lf=>intro n m;rw [TT.set_lf,TT.get_set1 b _ _ _ (Nat.lt_succ_self _),TT.get_lf]
 | nd l v r ihl ihr=>
   intro n m
   rw [TT.set_nd]
   by_cases hn:n=0
   ·subst hn
    rw [if_pos rfl,TT.get_nd,TT.get_nd]
    by_cases hm:m=0
    ·rw [if_pos hm,if_pos hm]
    ·rw [if_neg hm,if_neg hm,if_neg hm]
   ·rw [if_neg hn]
    by_cases h2:n % 2=1
    ·rw [if_pos h2,TT.get_nd,TT.get_nd]
     by_cases hm:m=0
     ·rw [if_pos hm,if_pos hm,if_neg (by omega)]
     ·rw [if_neg hm,if_neg hm]
      by_cases hm2:m % 2=1
      ·rw [if_pos hm2,if_pos hm2,ihl]
       by_cases e:m=n
       ·rw [if_pos (by rw [e]),if_pos e]
       ·rw [if_neg (by omega),if_neg e]
      ·rw [if_neg hm2,if_neg hm2,if_neg (by intro e;subst e;omega)]
    ·rw [if_neg h2,TT.get_nd,TT.get_nd]
     by_cases hm:m=0
     ·rw [if_pos hm,if_pos hm,if_neg (by omega)]
     ·rw [if_neg hm,if_neg hm]
      by_cases hm2:m % 2=1
      ·rw [if_pos hm2,if_pos hm2,if_neg (by intro e;subst e;omega)]
      ·rw [if_neg hm2,if_neg hm2,ihr]
       by_cases e:m=n
       ·rw [if_pos (by rw [e]),if_pos e]
       ·rw [if_neg (by omega),if_neg e]
theorem Qbn {α:Type} (l:List α):∀ n,lget l n=l[n]? :=by
 induction l with
 | nil=>intro n;rfl
 | cons a t ih=>intro n;cases n with | zero=>rfl | succ n=>exact ih n
theorem Qcc {α:Type} (l:List α):∀ n,ldrop l n=l.drop n:=by
 induction l with
 | nil=>intro n;cases n <;> rfl
 | cons a t ih=>intro n;cases n with | zero=>rfl | succ n=>exact ih n
theorem Qbw {α:Type} (l:List α):∀ n,ltake l n=l.take n:=by
 induction l with
 | nil=>intro n;cases n <;> rfl
 | cons a t ih=>intro n;cases n with | zero=>rfl | succ n=>show a :: ltake t n=_;rw [ih];rfl
theorem lapp_eq {α:Type} (l m:List α):lapp l m=l ++ m:=by
 induction l with
 | nil=>rfl
 | cons a t ih=>show a :: lapp t m=_;rw [ih];rfl
theorem lmap_eq {α β:Type} (f:α→β) (l:List α):lmap f l=l.map f:=by
 induction l with
 | nil=>rfl
 | cons a t ih=>show f a :: lmap f t=_;rw [ih];rfl
theorem Qao {α:Type} (l:List α):llen l=l.length:=by
 induction l with
 | nil=>rfl
 | cons a t ih=>show Nat.succ (llen t)=_;rw [ih];rfl
inductive V where
 | b (x:Bool)
 | i (k:IntKind) (n:Int)
 | s (l:List UInt8)
 | p0
 | p (b o:Nat)
 | sn
 | sl (b o len cap:Nat)
 | su (b o len sz:Nat)
 | e0
 | ez
 | f (fn:Nat) (first cap:List V)
 | y (l:Nat)
 | nf
 | ifc (t:Nat) (v:V)
 | ni
 | agg (l:List V)
 | tup (l:List V)
 | any
structure Pl where
 r:Nat
 base:Nat
 top:Nat
abbrev Env:=Nat→Option Pl
def Env.le (e e':Env):Prop:=∀ b x,e b=some x→e' b=some x
theorem Env.le_refl (e:Env):Env.le e e:=fun _ _ h=>h
theorem Env.le_trans {a b c:Env} (h:Env.le a b) (k:Env.le b c):Env.le a c:=fun _ _ x=>k _ _ (h _ _ x)
mutual
def VR (env:Env):V→Value→Prop
 | .b x,u=>u= .bool x
 | .i k n,u=>u= .int k n
 | .s l,u=>u= .string ⟨⟨l⟩⟩
 | .p0,u=>u= .pointer none
 | .p b o,u=>∃ e,env b=some e∧u= .pointer (some ⟨e.r,e.base+o,none⟩)
 | .sn,u=>u= .slice none 0 0
 | .sl b o n c,u=>∃ e,env b=some e∧u= .slice (some ⟨e.r,e.base+o,none⟩) n c
 | .su b o n sz,u=>∃ e c,env b=some e∧e.base+o+c * sz=e.top∧n≤c∧u= .slice (some ⟨e.r,e.base+o,none⟩) n c
 | .e0,u=>∃ a c,u= .slice (some a) 0 c
 | .ez,u=>∃ a,u= .slice (some a) 0 0
 | .f fn x y,u=>∃ us ws,VRs env x us∧VRs env y ws∧u= .func (.func fn) ⟨us⟩ ⟨ws⟩
 | .y l,u=>∃ e,env l=some e∧u= .func (.yield e.r) #[] #[]
 | .nf,u=>u= .nilFunc
 | .ifc t v,u=>∃ x,VR env v x∧u= .iface t x
 | .ni,u=>u= .nilIface
 | .agg l,u=>∃ us,VRs env l us∧u= .agg ⟨us⟩
 | .tup l,u=>∃ us,VRs env l us∧u= .tuple ⟨us⟩
 | .any,_=>True
def VRs (env:Env):List V→List Value→Prop
 | [],us=>us=[]
 | v :: vs,us=>∃ x xs,VR env v x∧VRs env vs xs∧us=x :: xs
end
mutual
theorem VR.mono {e e':Env} (h:Env.le e e'):∀ (v:V) (u:Value),VR e v u→VR e' v u
 | .b _,_,x | .i _ _,_,x | .s _,_,x | .p0,_,x | .sn,_,x | .e0,_,x | .ez,_,x | .nf,_,x | .ni,_,x=>by simpa only [VR] using x
 | .any,_,_=>by simp only [VR]
 | .p _ _,_,x=>by simp only [VR] at x ⊢;obtain ⟨y,h1,h2⟩:=x;exact ⟨y,h _ _ h1,h2⟩
 | .sl _ _ _ _,_,x=>by simp only [VR] at x ⊢;obtain ⟨y,h1,h2⟩:=x;exact ⟨y,h _ _ h1,h2⟩
 | .su _ _ _ _,_,x=>by simp only [VR] at x ⊢;obtain ⟨y,c,h1,h2⟩:=x;exact ⟨y,c,h _ _ h1,h2⟩
 | .y _,_,x=>by simp only [VR] at x ⊢;obtain ⟨y,h1,h2⟩:=x;exact ⟨y,h _ _ h1,h2⟩
 | .f _ a b,_,x=>by simp only [VR] at x ⊢;obtain ⟨us,ws,h1,h2,h3⟩:=x;exact ⟨us,ws,VRs.mono h a us h1,VRs.mono h b ws h2,h3⟩
 | .ifc _ v,_,x=>by simp only [VR] at x ⊢;obtain ⟨y,h1,h2⟩:=x;exact ⟨y,VR.mono h v y h1,h2⟩
 | .agg l,_,x=>by simp only [VR] at x ⊢;obtain ⟨y,h1,h2⟩:=x;exact ⟨y,VRs.mono h l y h1,h2⟩
 | .tup l,_,x=>by simp only [VR] at x ⊢;obtain ⟨y,h1,h2⟩:=x;exact ⟨y,VRs.mono h l y h1,h2⟩
theorem VRs.mono {e e':Env} (h:Env.le e e'):∀ (v:List V) (u:List Value),VRs e v u→VRs e' v u
 | [],_,x=>by simpa only [VRs] using x
 | v :: vs,_,x=>by simp only [VRs] at x ⊢;obtain ⟨a,as,h1,h2,h3⟩:=x;exact ⟨a,as,VR.mono h v a h1,VRs.mono h vs as h2,h3⟩
end
theorem VR.mkb (env:Env) (x:Bool):VR env (.b x) (.bool x):=by simp only [VR]
theorem VR.mki (env:Env) (k:IntKind) (n:Int):VR env (.i k n) (.int k n):=by simp only [VR]
theorem VR.mks (env:Env) (l:List UInt8):VR env (.s l) (.string ⟨⟨l⟩⟩):=by simp only [VR]
theorem VR.mku (env:Env):VR env (.tup []) undef:=by simp only [VR,VRs];exact ⟨[],rfl,rfl⟩
theorem VR.mkagg {env:Env} {l:List V} {us:List Value} (h:VRs env l us):VR env (.agg l) (.agg ⟨us⟩):=by simp only [VR];exact ⟨us,h,rfl⟩
theorem VR.mktup {env:Env} {l:List V} {us:List Value} (h:VRs env l us):VR env (.tup l) (.tuple ⟨us⟩):=by simp only [VR];exact ⟨us,h,rfl⟩
theorem VR.mkp {env:Env} {b o:Nat} {e:Pl} (h:env b=some e):VR env (.p b o) (.pointer (some ⟨e.r,e.base+o,none⟩)):=by simp only [VR];exact ⟨e,h,rfl⟩
theorem VRs.nil (env:Env):VRs env [] []:=by simp only [VRs]
theorem VRs.cons {env:Env} {v:V} {u:Value} {vs:List V} {us:List Value} (h:VR env v u) (k:VRs env vs us):VRs env (v :: vs) (u :: us):=by simp only [VRs];exact ⟨u,us,h,k,rfl⟩
theorem VRs.length {e:Env}:∀ {v:List V} {u:List Value},VRs e v u→u.length=v.length
 | [],_,x=>by simp only [VRs] at x;subst x;rfl
 | v :: vs,_,x=>by simp only [VRs] at x;obtain ⟨a,as,h1,h2,rfl⟩:=x;simp [VRs.length h2]
theorem VRs.get {e:Env}:∀ {v:List V} {u:List Value},VRs e v u→∀ (j:Nat) (x:V),v[j]? =some x→∃ y,u[j]? =some y∧VR e x y
 | [],_,h,j,x,hx=>by simp at hx
 | v :: vs,_,h,j,x,hx=>by
   simp only [VRs] at h
   obtain ⟨a,as,h1,h2,rfl⟩:=h
   cases j with
   | zero=>simp only [List.getElem?_cons_zero,Option.some.injEq] at hx;subst hx;exact ⟨a,by simp,h1⟩
   | succ j=>simp only [List.getElem?_cons_succ] at hx ⊢;exact VRs.get h2 j x hx
theorem VRs.of {e:Env}:∀ {v:List V} {u:List Value},u.length=v.length→(∀ (j:Nat) (x:V) (y:Value),v[j]? =some x→u[j]? =some y→VR e x y)→VRs e v u
 | [],u,hl,h=>by simp only [VRs];exact List.eq_nil_of_length_eq_zero (by simpa using hl)
 | v :: vs,[],hl,h=>by simp at hl
 | v :: vs,a :: as,hl,h=>by
   simp only [VRs]
   exact ⟨a,as,h 0 v a rfl rfl,VRs.of (by simpa using hl) (fun j x y h1 h2=>h (j+1) x y (by simpa using h1) (by simpa using h2)),rfl⟩
theorem VRs.append {e:Env}:∀ {v w:List V} {u x:List Value},VRs e v u→VRs e w x→VRs e (v ++ w) (u ++ x)
 | [],_,_,_,h,k=>by simp only [VRs] at h;subst h;simpa using k
 | a :: v,_,_,_,h,k=>by
   simp only [VRs] at h
   obtain ⟨y,ys,h1,h2,rfl⟩:=h
   simp only [List.cons_append,VRs]
   exact ⟨y,_,h1,VRs.append h2 k,rfl⟩
theorem VRs.take {e:Env}:∀ {v:List V} {u:List Value} (n:Nat),VRs e v u→VRs e (v.take n) (u.take n)
 | [],_,n,h=>by simp only [VRs] at h;subst h;cases n <;> simp [VRs]
 | a :: v,_,n,h=>by
   simp only [VRs] at h
   obtain ⟨y,ys,h1,h2,rfl⟩:=h
   cases n with
   | zero=>simp [VRs]
   | succ n=>simp only [List.take_succ_cons,VRs];exact ⟨y,_,h1,VRs.take n h2,rfl⟩
theorem VRs.drop {e:Env}:∀ {v:List V} {u:List Value} (n:Nat),VRs e v u→VRs e (v.drop n) (u.drop n)
 | [],_,n,h=>by simp only [VRs] at h;subst h;cases n <;> simp [VRs]
 | a :: v,_,n,h=>by
   cases n with
   | zero=>simpa using h
   | succ n=>
     simp only [VRs] at h
     obtain ⟨y,ys,h1,h2,rfl⟩:=h
     simpa using VRs.drop n h2
end Go.Ev
namespace Go.Ev
open Go
set_option linter.unusedVariables false
structure Lp where
 N:Nat
 tm:TT V
 params:List Nat
 assign:Code
 body:Code
 st:LoopState
 pending:Option Code
 dfr:Nat
inductive Blk where
 | cells (c:List V) (t:Nat)
 | loop (l:Lp)
 | dfr
 | gone
def Blk.live:Blk→Prop
 | .gone=>False
 | _=>True
structure H where
 t:TT Blk
 n:Nat
 fl:Nat
noncomputable def H.get (h:H) (b:Nat):Option Blk:=h.t.get b
noncomputable def H.new (h:H) (x:Blk):H:=⟨h.t.set h.n x,h.n+1,h.fl⟩
noncomputable def H.put (h:H) (b:Nat) (x:Blk):H:=⟨h.t.set b x,h.n,h.fl⟩
theorem H.get_new (h:H) (x:Blk) (b:Nat):(h.new x).get b=if b=h.n then some x else h.get b:=TT.get_set x h.t h.n b
theorem H.get_put (h:H) (k:Nat) (x:Blk) (b:Nat):(h.put k x).get b=if b=k then some x else h.get b:=TT.get_set x h.t k b
noncomputable def tget (tm:TT V) (t:Nat):V:=match tm.get t with | some v=>v | none=>.tup []
theorem tget_set (tm:TT V) (d:Nat) (v:V) (t:Nat):tget (tm.set d v) t=if t=d then v else tget tm t:=by
 unfold tget
 rw [TT.get_set]
 by_cases h:t=d
 ·rw [if_pos h,if_pos h]
 ·rw [if_neg h,if_neg h]
structure TR (env:Env) (tm:TT V) (N:Nat) (a:Array Value):Prop where
 size:a.size=N
 get:∀ t,VR env (tget tm t) (a.getD t undef)
theorem TR.mono {e e':Env} (h:Env.le e e') {tm:TT V} {N:Nat} {a:Array Value} (x:TR e tm N a):TR e' tm N a:=⟨x.size,fun t=>VR.mono h _ _ (x.get t)⟩
theorem TR.set {e:Env} {tm:TT V} {N:Nat} {a:Array Value} (x:TR e tm N a) {d:Nat} (hd:d < N) {v:V} {u:Value} (h:VR e v u):TR e (tm.set d v) N (a.setIfInBounds d u):=by
 refine ⟨by simpa using x.size,fun t=>?_⟩
 rw [tget_set]
 have hs:=x.size
 by_cases ht:t=d
 ·subst ht
  rw [if_pos rfl]
  simpa [Array.getD,hs,hd] using h
 ·rw [if_neg ht]
  have:=x.get t
  simp only [Array.getD_eq_getD_getElem?, Array.getElem?_setIfInBounds] at this ⊢
  rw [if_neg (Ne.symm ht)]
  exact this
def BR (s0:Nat) (env:Env) (e:Pl):Blk→World→Prop
 | .cells c t,w=>∃ C fr,w.heap[e.r]? =some (.cells C t fr)∧C.size=e.top∧VRs env c ((C.toList.drop e.base).take c.length)∧(fr=(0,0)∨e.r < s0)
 | .loop l,w=>∃ L,w.heap[e.r]? =some (.loop L)∧L.state=l.st∧L.pending=l.pending∧TR env l.tm l.N L.tmps∧L.params.toList=l.params∧L.assign=l.assign∧L.body=l.body∧∃ d,env l.dfr=some d∧L.defers=d.r
 | .dfr,w=>w.heap[e.r]? =some (.deferred (some []))
 | .gone,_=>True
theorem BR.mono {s0:Nat} {e e':Env} (h:Env.le e e') {p:Pl} {x:Blk} {w:World} (hx:BR s0 e p x w):BR s0 e' p x w:=by
 cases x with
 | cells c t=>obtain ⟨C,fr,h1,h2,h3,h4⟩:=hx;exact ⟨C,fr,h1,h2,VRs.mono h _ _ h3,h4⟩
 | loop l=>obtain ⟨L,h1,h2,h3,h4,h5,h6,h7,d,h8,h9⟩:=hx;exact ⟨L,h1,h2,h3,h4.mono h,h5,h6,h7,d,h _ _ h8,h9⟩
 | dfr=>exact hx
 | gone=>trivial
theorem BR.same {s0:Nat} {e:Env} {p:Pl} {x:Blk} {w w':World} (hw:w'.heap[p.r]? =w.heap[p.r]?) (hx:BR s0 e p x w):BR s0 e p x w':=by
 cases x with
 | cells c t=>obtain ⟨C,fr,h1,h2⟩:=hx;exact ⟨C,fr,by rw [hw];exact h1,h2⟩
 | loop l=>obtain ⟨L,h1,h2⟩:=hx;exact ⟨L,by rw [hw];exact h1,h2⟩
 | dfr=>exact (hw.trans hx:_)
 | gone=>trivial
structure HR (w0:World) (env:Env) (h:H) (w:World):Prop where
 fresh:∀ b,h.n≤b→env b=none
 lt:∀ b e,env b=some e→e.r < w.heap.size
 get:∀ b x,h.get b=some x→∃ e,env b=some e∧BR w0.heap.size env e x w
 inj:∀ b b' x x' e e',h.get b=some x→h.get b'=some x'→x.live→x'.live→env b=some e→env b'=some e'→e.r=e'.r→b=b'
 fl:h.fl≤h.n
 bel:RowKit.Below w0.heap.size w0 w
 low:∀ b e,env b=some e→h.fl≤b→w0.heap.size≤e.r
variable {w0:World}
def Wr (env:Env) (h:H) (r:Nat):Prop:=∃ b x e,h.get b=some x∧x.live∧h.fl≤b∧env b=some e∧e.r=r
structure HG (h h':H):Prop where
 fl:h'.fl=h.fl
 n:h.n≤h'.n
 low:∀ b,b < h.fl→h'.get b=h.get b
 live:∀ b x,b < h.n→h'.get b=some x→x.live→∃ y,h.get b=some y∧y.live
theorem HG.refl (h:H):HG h h:=⟨rfl,Nat.le_refl _,fun _ _=>rfl,fun b x _ hb hx=>⟨x,hb,hx⟩⟩
theorem HG.trans {a b c:H} (h:HG a b) (k:HG b c):HG a c:=
 ⟨k.fl.trans h.fl,Nat.le_trans h.n k.n,fun x hx=>(k.low x (by rw [h.fl];exact hx)).trans (h.low x hx),fun x y hx hy hl=>by
  obtain ⟨z,h1,h2⟩:=k.live x y (Nat.lt_of_lt_of_le hx h.n) hy hl
  exact h.live x z hx h1 h2⟩
structure Gn (env:Env) (h:H) (w:World) (env':Env) (w':World):Prop where
 le:Env.le env env'
 os:w'.os=w.os
 tape:w'.tape=w.tape
 output:w'.output=w.output
 size:w.heap.size≤w'.heap.size
 ext:∀ b e,env' b=some e→env b=some e∨w.heap.size≤e.r∨Wr env h e.r
 frame:∀ k,k < w.heap.size→¬ Wr env h k→w'.heap[k]? =w.heap[k]?
 old:∀ b,b < h.n→env' b=env b
theorem Gn.refl (env:Env) (h:H) (w:World):Gn env h w env w:=⟨Env.le_refl _,rfl,rfl,rfl,Nat.le_refl _,fun b e h=>.inl h,fun _ _ _=>rfl,fun _ _=>rfl⟩
theorem Wr.back {a b:Env} {h h':H} {u v:World} {r:Nat} (hf:∀ x,h.n≤x→a x=none) (hh:HG h h') (g:Gn a h u b v) (k:Wr b h' r):Wr a h r∨u.heap.size≤r:=by
 obtain ⟨x,y,e,h1,h2,h3,h4,rfl⟩:=k
 rcases g.ext x e h4 with h5 | h6 | h6
 ·have hx:x < h.n:=by
   rcases Nat.lt_or_ge x h.n with hx | hx
   ·exact hx
   ·rw [hf x hx] at h5;cases h5
  obtain ⟨z,h7,h8⟩:=hh.live x y hx h1 h2
  exact .inl ⟨x,z,e,h7,h8,by rw [←hh.fl];exact h3,h5,rfl⟩
 ·exact .inr h6
 ·exact .inl h6
theorem Gn.trans {a b c:Env} {h h':H} {u v w:World} (hf:∀ x,h.n≤x→a x=none) (hh:HG h h') (g:Gn a h u b v) (k:Gn b h' v c w):Gn a h u c w where
 le:=Env.le_trans g.le k.le
 os:=k.os.trans g.os
 tape:=k.tape.trans g.tape
 output:=k.output.trans g.output
 size:=Nat.le_trans g.size k.size
 old:=fun x hx=>(k.old x (Nat.lt_of_lt_of_le hx hh.n)).trans (g.old x hx)
 ext:=fun x e hx=>by
  rcases k.ext x e hx with h1 | h1 | h1
  ·exact g.ext x e h1
  ·exact .inr (.inl (Nat.le_trans g.size h1))
  ·exact .inr ((h1.back hf hh g).symm)
 frame:=fun x hx hn=>by
  rw [k.frame x (Nat.lt_of_lt_of_le hx g.size) (fun h1=>?_),g.frame x hx hn]
  rcases h1.back hf hh g with h2 | h2
  ·exact hn h2
  ·omega
theorem HR.heap {env:Env} {h:H} {w w':World} (hh:w'.heap=w.heap) (h1:w'.os=w.os) (h2:w'.tape=w.tape) (h3:w'.output=w.output) (x:HR w0 env h w):HR w0 env h w':=
 ⟨x.fresh,fun b e hb=>by rw [hh];exact x.lt b e hb,fun b y hy=>let ⟨e,h1,h2⟩:=x.get b y hy;⟨e,h1,h2.same (by rw [hh])⟩,x.inj,x.fl,⟨h1.trans x.bel.os,h2.trans x.bel.tape,h3.trans x.bel.output,by rw [hh];exact x.bel.size,fun k hk=>by rw [hh];exact x.bel.block k hk⟩,x.low⟩
theorem Gn.heap {env:Env} {h:H} {w w':World} (hh:w'.heap=w.heap) (h1:w'.os=w.os) (h2:w'.tape=w.tape) (h3:w'.output=w.output):Gn env h w env w':=
 ⟨Env.le_refl _,h1,h2,h3,by rw [hh];exact Nat.le_refl _,fun b e h=>.inl h,fun _ _ _=>by rw [hh],fun _ _=>rfl⟩
structure But (w w':World) (r:Nat):Prop where
 os:w'.os=w.os
 tape:w'.tape=w.tape
 output:w'.output=w.output
 size:w'.heap.size=w.heap.size
 same:∀ k,k≠r→w'.heap[k]? =w.heap[k]?
theorem But.refl (w:World) (r:Nat):But w w r:=⟨rfl,rfl,rfl,rfl,fun _ _=>rfl⟩
theorem But.setRow (w:World) (g:Nat) (cs:Array Value):But w (w.setRow g cs) g:=⟨rfl,rfl,rfl,by simp [World.setRow],fun k hk=>setRow_other w g k cs hk⟩
theorem bel_but {env:Env} {h:H} {w w':World} (x:HR w0 env h w) {b:Nat} {e:Pl} (he:env b=some e) (hfl:h.fl≤b) (hw:But w w' e.r):RowKit.Below w0.heap.size w0 w':=
 ⟨hw.os.trans x.bel.os,hw.tape.trans x.bel.tape,hw.output.trans x.bel.output,by rw [hw.size];exact x.bel.size,fun k hk=>by rw [hw.same k (by have:=x.low b e he hfl;omega)];exact x.bel.block k hk⟩
theorem HR.put {env:Env} {h:H} {w w':World} (x:HR w0 env h w) {b:Nat} {y y':Blk} (hb:h.get b=some y) (hy:y.live) {e:Pl} (he:env b=some e) (hfl:h.fl≤b) (hw:But w w' e.r) (hbr:BR w0.heap.size env e y' w'):
  HR w0 env (h.put b y') w'∧Gn env h w env w'∧HG h (h.put b y'):=by
 refine ⟨⟨x.fresh,fun k e hk=>by rw [hw.size];exact x.lt k e hk,fun k z hz=>?_,fun k k' z z' ez ez' h1 h2 h3 h4 h5 h6 h7=>?_,x.fl,bel_but x he hfl hw,x.low⟩,?_,⟨rfl,Nat.le_refl _,fun k hk=>?_,fun k z _ hz hl=>?_⟩⟩
 ·rw [H.get_put] at hz
  by_cases hk:k=b
  ·subst hk
   rw [if_pos rfl] at hz
   cases hz
   exact ⟨e,he,hbr⟩
  ·rw [if_neg hk] at hz
   obtain ⟨ek,h1,h2⟩:=x.get k z hz
   refine ⟨ek,h1,?_⟩
   cases z with
   | gone=>trivial
   | cells c t=>exact h2.same (hw.same _ (fun hr=>hk (x.inj k b _ _ ek e hz hb trivial hy h1 he hr)))
   | loop l=>exact h2.same (hw.same _ (fun hr=>hk (x.inj k b _ _ ek e hz hb trivial hy h1 he hr)))
   | dfr=>exact h2.same (hw.same _ (fun hr=>hk (x.inj k b _ _ ek e hz hb trivial hy h1 he hr)))
 ·rw [H.get_put] at h1 h2
  have g1:∃ z,h.get k=some z∧z.live:=by
   by_cases hk:k=b
   · exact ⟨y,hk ▸ hb,hy⟩
   · rw [if_neg hk] at h1;exact ⟨z,h1,h3⟩
  have g2:∃ z,h.get k'=some z∧z.live:=by
   by_cases hk:k'=b
   · exact ⟨y,hk ▸ hb,hy⟩
   · rw [if_neg hk] at h2;exact ⟨z',h2,h4⟩
  obtain ⟨z1,g1,l1⟩:=g1
  obtain ⟨z2,g2,l2⟩:=g2
  exact x.inj k k' _ _ ez ez' g1 g2 l1 l2 h5 h6 h7
 ·exact ⟨Env.le_refl _,hw.os,hw.tape,hw.output,by rw [hw.size];exact Nat.le_refl _,fun b e h=>.inl h,fun k hk hn=>hw.same k (fun hr=>hn ⟨b,y,e,hb,hy,hfl,he,hr.symm⟩),fun _ _=>rfl⟩
 ·rw [H.get_put,if_neg (by omega)]
 ·rw [H.get_put] at hz
  by_cases hk:k=b
  ·subst hk;exact ⟨y,hb,hy⟩
  ·rw [if_neg hk] at hz;exact ⟨z,hz,hl⟩
def Env.ext (env:Env) (n:Nat) (e:Pl):Env:=fun b=>if b=n then some e else env b
theorem Env.ext_self (env:Env) (n:Nat) (e:Pl):env.ext n e n=some e:=if_pos rfl
theorem Env.ext_le {env:Env} {n:Nat} (h:env n=none) (e:Pl):Env.le env (env.ext n e):=fun b x hb=>by
 unfold Env.ext
 by_cases hn:b=n
 ·subst hn;rw [h] at hb;cases hb
 ·rw [if_neg hn];exact hb
theorem HR.add {env:Env} {h:H} {w w':World} (x:HR w0 env h w) {e:Pl} {y:Blk} (hos:w'.os=w.os) (htp:w'.tape=w.tape) (hou:w'.output=w.output) (hsz:w.heap.size≤w'.heap.size) (hsame:∀ k,k < w.heap.size→w'.heap[k]? =w.heap[k]?)
  (hr:w.heap.size≤e.r) (hr':e.r < w'.heap.size) (hbr:BR w0.heap.size (env.ext h.n e) e y w'):
  HR w0 (env.ext h.n e) (h.new y) w'∧Gn env h w (env.ext h.n e) w'∧HG h (h.new y):=by
 have hf:=x.fresh h.n (Nat.le_refl _)
 have hle:=Env.ext_le hf e
 have old:∀ b e2,b≠h.n→(env.ext h.n e) b=some e2→env b=some e2:=fun b e2 hb he=>by unfold Env.ext at he;rw [if_neg hb] at he;exact he
 have ne:∀ b e2,env b=some e2→b≠h.n:=fun b e2 he hb=>by rw [hb,hf] at he;cases he
 refine ⟨⟨fun b hb=>?_,fun b e2 hb=>?_,fun b z hz=>?_,fun k k' z z' ez ez' h1 h2 h3 h4 h5 h6 h7=>?_,Nat.le_succ_of_le x.fl,⟨hos.trans x.bel.os,htp.trans x.bel.tape,hou.trans x.bel.output,Nat.le_trans x.bel.size hsz,fun k hk=>by rw [hsame k (Nat.lt_of_lt_of_le hk x.bel.size)];exact x.bel.block k hk⟩,fun b e2 hb hf2=>?_⟩,⟨hle,hos,htp,hou,hsz,fun b e2 hb=>?_,fun k hk _=>hsame k hk,fun b hb=>if_neg (by omega)⟩,⟨rfl,Nat.le_succ _,fun b hb=>?_,fun b z hb hz hl=>?_⟩⟩
 ·have:h.n+1≤b:=hb
  unfold Env.ext
  rw [if_neg (by omega)]
  exact x.fresh b (by omega)
 ·by_cases hn:b=h.n
  · subst hn;rw [Env.ext_self] at hb;cases hb;exact hr'
  · exact Nat.lt_of_lt_of_le (x.lt b e2 (old b e2 hn hb)) hsz
 ·rw [H.get_new] at hz
  by_cases hn:b=h.n
  · subst hn
    rw [if_pos rfl] at hz
    cases hz
    exact ⟨e,Env.ext_self _ _ _,hbr⟩
  · rw [if_neg hn] at hz
    obtain ⟨e2,h1,h2⟩:=x.get b z hz
    exact ⟨e2,hle _ _ h1,(h2.same (hsame _ (x.lt b e2 h1))).mono hle⟩
 ·rw [H.get_new] at h1 h2
  by_cases hk:k=h.n
  · by_cases hk':k'=h.n
    ·rw [hk,hk']
    ·exfalso
     have:=x.lt k' ez' (old k' ez' hk' h6)
     subst hk
     rw [Env.ext_self] at h5
     cases h5
     omega
  · by_cases hk':k'=h.n
    ·exfalso
     have:=x.lt k ez (old k ez hk h5)
     subst hk'
     rw [Env.ext_self] at h6
     cases h6
     omega
    ·rw [if_neg hk] at h1
     rw [if_neg hk'] at h2
     exact x.inj k k' _ _ ez ez' h1 h2 h3 h4 (old k ez hk h5) (old k' ez' hk' h6) h7
 ·by_cases hn:b=h.n
  · subst hn;rw [Env.ext_self] at hb;cases hb;exact Nat.le_trans x.bel.size hr
  · exact x.low b e2 (old b e2 hn hb) hf2
 ·by_cases hn:b=h.n
  · subst hn;rw [Env.ext_self] at hb;cases hb;exact .inr (.inl hr)
  · exact .inl (old b e2 hn hb)
 ·rw [H.get_new,if_neg (by have:=x.fl;omega)]
 ·rw [H.get_new,if_neg (by omega)] at hz;exact ⟨z,hz,hl⟩
theorem HR.addAlloc {env:Env} {h:H} {w:World} (x:HR w0 env h w) {o:Obj} {y:Blk} (top:Nat) (hbr:BR w0.heap.size (env.ext h.n ⟨w.heap.size,0,top⟩) ⟨w.heap.size,0,top⟩ y (w.alloc o)):
  HR w0 (env.ext h.n ⟨w.heap.size,0,top⟩) (h.new y) (w.alloc o)∧Gn env h w (env.ext h.n ⟨w.heap.size,0,top⟩) (w.alloc o)∧HG h (h.new y):=
 x.add rfl rfl rfl (by simp) (fun k hk=>heap_alloc_old w o k hk) (Nat.le_refl _) (by simp) hbr
theorem HR.move {env:Env} {h:H} {w w':World} (x:HR w0 env h w) {b:Nat} {y y':Blk} (hb:h.get b=some y) (hy:y.live) {e e':Pl} (he:env b=some e) (hfl:h.fl≤b) (hr:e'.r=e.r) (hw:But w w' e.r)
  (hbr:BR w0.heap.size (env.ext h.n e') e' y' w'):
  HR w0 (env.ext h.n e') ((h.put b .gone).new y') w'∧Gn env h w (env.ext h.n e') w'∧HG h ((h.put b .gone).new y'):=by
 have hf:=x.fresh h.n (Nat.le_refl _)
 have hle:=Env.ext_le hf e'
 have hbn:b < h.n:=by
  rcases Nat.lt_or_ge b h.n with h1 | h1
  · exact h1
  · rw [x.fresh b h1] at he;cases he
 have old:∀ b e2,b≠h.n→(env.ext h.n e') b=some e2→env b=some e2:=fun b e2 hb he=>by unfold Env.ext at he;rw [if_neg hb] at he;exact he
 have gt:∀ k,((h.put b .gone).new y').get k=if k=h.n then some y' else if k=b then some .gone else h.get k:=fun k=>by
  rw [H.get_new,H.get_put];rfl
 refine ⟨⟨fun k hk=>?_,fun k e2 hk=>?_,fun k z hz=>?_,fun k k' z z' ez ez' h1 h2 h3 h4 h5 h6 h7=>?_,Nat.le_succ_of_le x.fl,bel_but x he hfl hw,fun k e2 hk hf2=>?_⟩,⟨hle,hw.os,hw.tape,hw.output,by rw [hw.size];exact Nat.le_refl _,fun k e2 hk=>?_,fun k hk hn=>hw.same k (fun hr=>hn ⟨b,y,e,hb,hy,hfl,he,hr.symm⟩),fun k hk=>if_neg (by omega)⟩,⟨rfl,Nat.le_succ _,fun k hk=>?_,fun k z hk hz hl=>?_⟩⟩
 ·have:h.n+1≤k:=hk
  unfold Env.ext
  rw [if_neg (by omega)]
  exact x.fresh k (by omega)
 ·rw [hw.size]
  by_cases hn:k=h.n
  · subst hn;rw [Env.ext_self] at hk;cases hk;rw [hr];exact x.lt b e he
  · exact x.lt k e2 (old k e2 hn hk)
 ·rw [gt] at hz
  by_cases hn:k=h.n
  · subst hn
    rw [if_pos rfl] at hz
    cases hz
    exact ⟨e',Env.ext_self _ _ _,hbr⟩
  · rw [if_neg hn] at hz
    by_cases hk:k=b
    ·subst hk
     rw [if_pos rfl] at hz
     cases hz
     exact ⟨e,hle _ _ he,trivial⟩
    ·rw [if_neg hk] at hz
     obtain ⟨e2,h1,h2⟩:=x.get k z hz
     refine ⟨e2,hle _ _ h1,?_⟩
     cases z with
     | gone=>trivial
     | cells c t=>exact (h2.same (hw.same _ (fun hr=>hk (x.inj k b _ _ e2 e hz hb trivial hy h1 he hr)))).mono hle
     | loop l=>exact (h2.same (hw.same _ (fun hr=>hk (x.inj k b _ _ e2 e hz hb trivial hy h1 he hr)))).mono hle
     | dfr=>exact (h2.same (hw.same _ (fun hr=>hk (x.inj k b _ _ e2 e hz hb trivial hy h1 he hr)))).mono hle
 ·rw [gt] at h1 h2
  have one:∀ j z ej,(if j=h.n then some y' else if j=b then some Blk.gone else h.get j)=some z→z.live→(env.ext h.n e') j=some ej→(j=h.n∧ej.r=e.r)∨(j≠h.n∧j≠b∧h.get j=some z∧env j=some ej):=fun j z ej g1 g2 g3=>by
    by_cases hj:j=h.n
    ·subst hj;rw [Env.ext_self] at g3;cases g3;exact .inl ⟨rfl,hr⟩
    ·rw [if_neg hj] at g1
     by_cases hj2:j=b
     · rw [if_pos hj2] at g1;cases g1;exact g2.elim
     · rw [if_neg hj2] at g1;exact .inr ⟨hj,hj2,g1,old j ej hj g3⟩
  rcases one k z ez h1 h3 h5 with ⟨r1,r2⟩ | ⟨r1,r2,r3,r4⟩ <;> rcases one k' z' ez' h2 h4 h6 with ⟨s1,s2⟩ | ⟨s1,s2,s3,s4⟩
  · rw [r1,s1]
  · exact absurd (x.inj k' b _ _ ez' e s3 hb h4 hy s4 he (h7.symm.trans r2)) s2
  · exact absurd (x.inj k b _ _ ez e r3 hb h3 hy r4 he (h7.trans s2)) r2
  · exact x.inj k k' _ _ ez ez' r3 s3 h3 h4 r4 s4 h7
 ·by_cases hn:k=h.n
  · subst hn;rw [Env.ext_self] at hk;cases hk;rw [hr];exact x.low b e he hfl
  · exact x.low k e2 (old k e2 hn hk) hf2
 ·by_cases hn:k=h.n
  · subst hn;rw [Env.ext_self] at hk;cases hk;exact .inr (.inr ⟨b,y,e,hb,hy,hfl,he,hr.symm⟩)
  · exact .inl (old k e2 hn hk)
 ·rw [gt,if_neg (by have:=x.fl;omega),if_neg (by omega)]
 ·rw [gt,if_neg (by omega)] at hz
  by_cases hkb:k=b
  · subst hkb;exact ⟨y,hb,hy⟩
  · rw [if_neg hkb] at hz;exact ⟨z,hz,hl⟩
theorem HR.cells {env:Env} {h:H} {w:World} (x:HR w0 env h w) {b:Nat} {c:List V} {t:Nat} (hb:h.get b=some (.cells c t)):
  ∃ e C fr,env b=some e∧w.heap[e.r]? =some (.cells C t fr)∧C.size=e.top∧VRs env c ((C.toList.drop e.base).take c.length):=by
 obtain ⟨e,h1,C,fr,h2,h3,h4,_⟩:=x.get b _ hb
 exact ⟨e,C,fr,h1,h2,h3,h4⟩
theorem HR.cellsW {env:Env} {h:H} {w:World} (x:HR w0 env h w) {b:Nat} {c:List V} {t:Nat} (hb:h.get b=some (.cells c t)) (hfl:h.fl≤b):
  ∃ e C,env b=some e∧w.heap[e.r]? =some (.cells C t (0,0))∧C.size=e.top∧VRs env c ((C.toList.drop e.base).take c.length):=by
 obtain ⟨e,h1,C,fr,h2,h3,h4,h5⟩:=x.get b _ hb
 rcases h5 with rfl | h5
 ·exact ⟨e,C,h1,h2,h3,h4⟩
 ·have:=x.low b e h1 hfl;omega
end Go.Ev
namespace Go.Ev
open Go
set_option linter.unusedVariables false
set_option linter.unusedSimpArgs false
mutual
noncomputable def ofC:Value→V
 | .bool x=>.b x
 | .int k n=>.i k n
 | .string s=>.s s.data.toList
 | .pointer none=>.p0
 | .slice none 0 0=>.sn
 | .nilFunc=>.nf
 | .nilIface=>.ni
 | .agg ⟨cs⟩=>.agg (ofCs cs)
 | .tuple ⟨cs⟩=>.tup (ofCs cs)
 | .iface t v=>.ifc t (ofC v)
 | .func (.func f) ⟨a⟩ ⟨b⟩=>.f f (ofCs a) (ofCs b)
 | _=>.any
noncomputable def ofCs:List Value→List V
 | []=>[]
 | v :: r=>ofC v :: ofCs r
end
mutual
theorem ofC_ok (env:Env):∀ v:Value,VR env (ofC v) v
 | .bool _ | .int .. | .pointer none | .nilFunc | .nilIface=>by simp only [ofC,VR]
 | .string s=>by simp only [ofC,VR]
 | .slice none 0 0=>by simp only [ofC,VR]
 | .slice none (n+1) c | .slice none 0 (c+1) | .slice (some _) _ _ | .pointer (some _) | .float .. | .complex .. | .map _ | .chan _=>by simp only [ofC,VR]
 | .agg ⟨cs⟩=>by simp only [ofC,VR];exact ⟨cs,ofCs_ok env cs,rfl⟩
 | .tuple ⟨cs⟩=>by simp only [ofC,VR];exact ⟨cs,ofCs_ok env cs,rfl⟩
 | .iface t v=>by simp only [ofC,VR];exact ⟨v,ofC_ok env v,rfl⟩
 | .func (.func f) ⟨a⟩ ⟨b⟩=>by simp only [ofC,VR];exact ⟨a,b,ofCs_ok env a,ofCs_ok env b,rfl⟩
 | .func (.method _) _ _ | .func (.methodOf _ _) _ _ | .func (.via _ _ _ _) _ _ | .func (.yield _) _ _=>by simp only [ofC,VR]
theorem ofCs_ok (env:Env):∀ vs:List Value,VRs env (ofCs vs) vs
 | []=>by simp only [ofCs,VRs]
 | v :: r=>by simp only [ofCs,VRs];exact ⟨v,r,ofC_ok env v,ofCs_ok env r,rfl⟩
end
noncomputable def ev0 (tm:TT V):Operand→V
 | .tmp t=>tget tm t
 | .const v=>ofC v
 | .global g=>.any
 | .func f=>.f f [] []
theorem ev0_ok {env:Env} {tm:TT V} {N:Nat} {a:Act} (h:TR env tm N a.tmps) (x:Operand):VR env (ev0 tm x) (a.eval x):=by
 cases x with
 | tmp t=>exact h.get t
 | const v=>exact ofC_ok env v
 | global g=>simp only [ev0,VR]
 | func f=>simp only [ev0,VR];exact ⟨[],[],by simp only [VRs],by simp only [VRs],rfl⟩
theorem lmap_ok {env:Env} {r:Operand→V} {ρ:Operand→Value} (h:∀ x,VR env (r x) (ρ x)):∀ l:List Operand,VRs env (lmap r l) (l.map ρ)
 | []=>by simp only [lmap,VRs,List.map_nil]
 | x :: t=>by
   show VRs env (r x :: lmap r t) _
   simp only [VRs,List.map_cons]
   exact ⟨_,_,h x,lmap_ok h t,rfl⟩
noncomputable def szO (P:Program) (t:TypeId):Option Nat:=match P.info? t with | some i=>some i.size | none=>none
noncomputable def zeroO (P:Program) (t:TypeId):Option V:=match P.info? t with
 | some i=>match i.zero with | some z=>some (ofC z) | none=>none
 | none=>none
noncomputable def aggO (P:Program) (t:TypeId):Option Bool:=match P.underlying t with
 | some (.struct _)=>some true
 | some (.array _ _)=>some true
 | some _=>some false
 | none=>none
variable {P:Program}
theorem Qbx {t:TypeId} {n:Nat} (h:szO P t=some n) (w:World):(sizeOf t).run P w= .ok n w:=by
 unfold szO at h
 cases hi:P.info? t with
 | none=>rw [hi] at h;cases h
 | some i=>rw [hi] at h;cases h;simp [sizeOf,typeInfo,hi]
theorem zeroO_ok {t:TypeId} {v:V} (h:zeroO P t=some v):∃ z,v=ofC z∧∀ w,(zeroValue t).run P w= .ok z w:=by
 unfold zeroO at h
 cases hi:P.info? t with
 | none=>rw [hi] at h;cases h
 | some i=>
   rw [hi] at h
   cases hz:i.zero with
   | none=>simp only [hz] at h;cases h
   | some z=>simp only [hz,Option.some.injEq] at h;exact ⟨z,h.symm,fun w=>by simp [zeroValue,typeInfo,hi,hz]⟩
theorem aggO_ok {t:TypeId} {b:Bool} (h:aggO P t=some b) (w:World):(isAgg t).run P w= .ok b w:=by
 unfold aggO at h
 cases hu:P.underlying t with
 | none=>rw [hu] at h;cases h
 | some d=>
   rw [hu] at h
   unfold isAgg
   rw [Sem.run_bind,run_underlying hu,Result.andThen_ok]
   cases d <;> simp at h <;> subst h <;> rfl
noncomputable def iop (op:BinOp) (k:IntKind) (a c:Int):Option V:=
 match op with
 | .add=>some (.i k (k.wrap (a+c)))
 | .sub=>some (.i k (k.wrap (a - c)))
 | .mul=>some (.i k (k.wrap (a * c)))
 | .quo=>if c=0 then none else some (.i k (k.wrap (a.tdiv c)))
 | .rem=>if c=0 then none else some (.i k (a.tmod c))
 | .eql=>some (.b (decide (a=c)))
 | .neq=>some (.b (!decide (a=c)))
 | .lss=>some (.b (decide (a < c)))
 | .leq=>some (.b (decide (a≤c)))
 | .gtr=>some (.b (decide (c < a)))
 | .geq=>some (.b (decide (c≤a)))
 | _=>none
noncomputable def sop (op:BinOp) (a c:List UInt8):Option V:=
 match op with
 | .add=>if llen a+llen c≤1000000000 then some (.s (lapp a c)) else none
 | .eql=>some (.b (decide (a=c)))
 | .neq=>some (.b (!decide (a=c)))
 | .lss=>some (.b (Op.bytesLess a c))
 | .gtr=>some (.b (!(Op.bytesLess a c || decide (a=c))))
 | .leq=>some (.b (Op.bytesLess a c || decide (a=c)))
 | .geq=>some (.b (!Op.bytesLess a c))
 | _=>none
theorem VRs.getr {e:Env} {v:List V} {u:List Value} (h:VRs e v u) {j:Nat} {x:V} (hx:v[j]? =some x):∃ y,u[j]? =some y∧VR e x y:=h.get j x hx
noncomputable def partV (P:Program) (t:TypeId) (c:List V) (off:Nat):Option V:=
 match aggO P t with
 | some true=>match szO P t with | some n=>some (.agg (ltake (ldrop c off) n)) | none=>none
 | some false=>lget c off
 | none=>none
theorem partV_ok {env:Env} {t:TypeId} {c:List V} {us:List Value} {off:Nat} {v:V} (h:partV P t c off=some v) (hc:VRs env c us):∃ u,VR env v u∧∀ w,(part t ⟨us⟩ off).run P w= .ok u w:=by
 unfold partV at h
 split at h
 ·rename_i ha
  split at h
  ·rename_i n hn
   simp only [Option.some.injEq] at h
   subst h
   refine ⟨.agg ⟨(us.drop off).take n⟩,?_,fun w=>?_⟩
   ·simp only [VR]
    rw [Qbw,Qcc]
    exact ⟨_,(hc.drop off).take n,rfl⟩
   ·simp only [part,Sem.run_bind,aggO_ok ha w,Result.andThen_ok,if_true,Qbx hn w,Sem.run_pure]
    congr 3
    apply Array.ext'
    simp [List.extract_eq_take_drop]
  ·cases h
 ·rename_i ha
  rw [Qbn] at h
  obtain ⟨y,h1,h2⟩:=hc.getr h
  refine ⟨y,h2,fun w=>?_⟩
  simp only [part,Sem.run_bind,aggO_ok ha w,Result.andThen_ok,Bool.false_eq_true,if_false]
  have:(⟨us⟩:Array Value)[off]? =some y:=by simpa using h1
  rw [this]
  rfl
 ·cases h
noncomputable def eqPtr:V→V→Option Bool
 | .p0,.p0=>some true
 | .p0,.p _ _=>some false
 | .p _ _,.p0=>some false
 | _,_=>none
noncomputable def eqSl:V→V→Option Bool
 | .sn,.sn=>some true
 | .sl _ _ _ _,.sn=>some false
 | .su _ _ _ _,.sn=>some false
 | .e0,.sn=>some false
 | .sn,.sl _ _ _ _=>some false
 | .sn,.su _ _ _ _=>some false
 | .sn,.e0=>some false
 | .ez,.sn=>some false
 | .sn,.ez=>some false
 | _,_=>none
noncomputable def eqFn:V→V→Option Bool
 | .nf,.nf=>some true
 | .f _ _ _,.nf=>some false
 | .y _,.nf=>some false
 | .nf,.f _ _ _=>some false
 | _,_=>none
noncomputable def eqI:V→V→Option Bool
 | .i k a,.i j c=>if k=j then some (decide (a=c)) else none
 | _,_=>none
noncomputable def eqB:V→V→Option Bool
 | .b a,.b c=>some (a == c)
 | _,_=>none
noncomputable def eqS:V→V→Option Bool
 | .s a,.s c=>some (decide (a=c))
 | _,_=>none
noncomputable def cmpO (P:Program) (t:TypeId):Bool:=match P.info? t with | some i=>i.comparable | none=>false
noncomputable def eqFs (P:Program) (go:TypeId→V→V→Option Bool) (a c:List V):List Field→Option Bool
 | []=>some true
 | f :: fs=>if f.name≠ "_" then
    match partV P f.type a f.offset,partV P f.type c f.offset with
    | some x,some z=>match go f.type x z with
      | some true=>eqFs P go a c fs
      | some false=>some false
      | none=>none
    | _,_=>none
   else eqFs P go a c fs
noncomputable def eqIf (P:Program) (go:TypeId→V→V→Option Bool):V→V→Option Bool
 | .ni,.ni=>some true
 | .ni,.ifc _ _=>some false
 | .ifc _ _,.ni=>some false
 | .ifc t v,.ifc u w=>if t=u then (if cmpO P t=true then go t v w else none) else some false
 | _,_=>none
noncomputable def eqSt (P:Program) (go:TypeId→V→V→Option Bool) (t:TypeId):V→V→Option Bool
 | .agg a,.agg c=>if P.stoodInHeld t=true then none else eqFs P go a c (P.fieldsOf t).toList
 | _,_=>none
noncomputable def eqEls (P:Program) (go:TypeId→V→V→Option Bool) (e:TypeId) (s:Nat) (a c:List V):List Nat→Option Bool
 | []=>some true
 | i :: is=>match partV P e a (i * s),partV P e c (i * s) with
   | some x,some z=>match go e x z with
     | some true=>eqEls P go e s a c is
     | some false=>some false
     | none=>none
   | _,_=>none
noncomputable def eqAr (P:Program) (go:TypeId→V→V→Option Bool) (n:Nat) (e:TypeId):V→V→Option Bool
 | .agg a,.agg c=>match P.info? e with
   | some _=>eqEls P go e (P.cellsOf e) a c (List.range n)
   | none=>none
 | _,_=>none
noncomputable def eqD (P:Program) (go:TypeId→V→V→Option Bool) (t:TypeId) (x z:V):Option TypeDesc→Option Bool
 | some .bool=>eqB x z
 | some (.int _)=>eqI x z
 | some .string=>eqS x z
 | some (.pointer _)=>eqPtr x z
 | some (.slice _)=>eqSl x z
 | some (.func _ _ _)=>eqFn x z
 | some (.interface _)=>eqIf P go x z
 | some (.struct _)=>eqSt P go t x z
 | some (.array n e)=>eqAr P go n e x z
 | _=>none
noncomputable def eqV (P:Program) (n:Nat):TypeId→V→V→Option Bool:=
 Nat.rec (motive:=fun _=>TypeId→V→V→Option Bool) (fun _ _ _=>none) (fun _ ih t x z=>eqD P ih t x z (P.underlying t)) n
theorem eqV_succ (n:Nat) (t:TypeId) (x z:V):eqV P (n+1) t x z=eqD P (eqV P n) t x z (P.underlying t):=rfl
def EqOK (P:Program) (env:Env) (d:Nat) (go:TypeId→V→V→Option Bool):Prop:=
 ∀ t x z r,go t x z=some r→∀ u v,VR env x u→VR env z v→∀ w,(Op.equalIn d t u v).run P w= .ok r w
theorem eqFs_ok {env:Env} {d:Nat} {go:TypeId→V→V→Option Bool} (hgo:EqOK P env d go) {a c:List V} {us vs:List Value} (ha:VRs env a us) (hc:VRs env c vs) (w:World):
   ∀ (fs:List Field) (r:Bool),eqFs P go a c fs=some r→(Op.eqFields d ⟨us⟩ ⟨vs⟩ fs).run P w= .ok r w
 | [],r,h=>by simp only [eqFs,Option.some.injEq] at h;subst h;rfl
 | f :: fs,r,h=>by
   unfold eqFs at h
   unfold Op.eqFields
   by_cases hn:f.name≠ "_"
   ·rw [if_pos hn] at h ⊢
    split at h
    ·rename_i x z hx hz
     obtain ⟨u,h1,h2⟩:=partV_ok hx ha
     obtain ⟨v,h3,h4⟩:=partV_ok hz hc
     simp only [Sem.run_bind,h2 w,h4 w,Result.andThen_ok]
     split at h
     ·rename_i hg
      rw [hgo _ _ _ _ hg _ _ h1 h3 w,Result.andThen_ok]
      simp only [Bool.not_true,Bool.false_eq_true,if_false]
      exact eqFs_ok hgo ha hc w fs r h
     ·rename_i hg
      simp only [Option.some.injEq] at h
      subst h
      rw [hgo _ _ _ _ hg _ _ h1 h3 w,Result.andThen_ok]
      rfl
     ·cases h
    ·cases h
   ·rw [if_neg hn] at h ⊢
    exact eqFs_ok hgo ha hc w fs r h
theorem eqEls_ok {env:Env} {d:Nat} {go:TypeId→V→V→Option Bool} (hgo:EqOK P env d go) {e:TypeId} {s:Nat} {a c:List V} {us vs:List Value} (ha:VRs env a us) (hc:VRs env c vs) (w:World):
   ∀ (is:List Nat) (r:Bool),eqEls P go e s a c is=some r→(Op.eqItems d e s ⟨us⟩ ⟨vs⟩ is).run P w= .ok r w
 | [],r,h=>by simp only [eqEls,Option.some.injEq] at h;subst h;rfl
 | i :: is,r,h=>by
   unfold eqEls at h
   unfold Op.eqItems
   split at h
   ·rename_i x z hx hz
    obtain ⟨u,h1,h2⟩:=partV_ok hx ha
    obtain ⟨v,h3,h4⟩:=partV_ok hz hc
    simp only [Sem.run_bind,h2 w,h4 w,Result.andThen_ok]
    split at h
    ·rename_i hg
     rw [hgo _ _ _ _ hg _ _ h1 h3 w,Result.andThen_ok]
     simp only [Bool.not_true,Bool.false_eq_true,if_false]
     exact eqEls_ok hgo ha hc w is r h
    ·rename_i hg
     simp only [Option.some.injEq] at h
     subst h
     rw [hgo _ _ _ _ hg _ _ h1 h3 w,Result.andThen_ok]
     rfl
    ·cases h
   ·cases h
set_option maxHeartbeats 4000000 in
theorem eqV_ok (env:Env):∀ (n k:Nat),EqOK P env (n+k) (eqV P n):=by
 intro n
 induction n with
 | zero=>intro k t x z r h;cases h
 | succ n ih=>
   intro k t x z r h u v hu hv w
   rw [eqV_succ] at h
   have e:n+1+k=(n+k)+1:=by omega
   rw [e]
   unfold eqD at h
   split at h
   ·rename_i hd
    unfold eqB at h;split at h
    ·simp only [VR] at hu hv;subst hu;subst hv;cases h;simp [Op.equalIn,run_underlying hd]
    ·cases h
   ·rename_i hd
    unfold eqI at h;split at h
    ·split at h
     ·simp only [VR] at hu hv;subst hu;subst hv;cases h;rename_i hk;subst hk;simp [Op.equalIn,run_underlying hd];rfl
     ·cases h
    ·cases h
   ·rename_i hd
    unfold eqS at h;split at h
    ·simp only [VR] at hu hv;subst hu;subst hv;cases h
     rename_i a c
     rw [run_equalIn_string w (n+k) t _ _ hd,ByteArray.toList_eq,ByteArray.toList_eq]
     congr 1
     show (a == c)=decide (a=c)
     rw [Bool.eq_iff_iff]
     simp
    ·cases h
   ·rename_i hd
    unfold eqPtr at h;split at h
    ·simp only [VR] at hu hv;subst hu;subst hv;cases h;simp [Op.equalIn,run_underlying hd]
    ·simp only [VR] at hu hv;subst hu;obtain ⟨_,_,rfl⟩:=hv;cases h;simp [Op.equalIn,run_underlying hd]
    ·simp only [VR] at hu hv;subst hv;obtain ⟨_,_,rfl⟩:=hu;cases h;simp [Op.equalIn,run_underlying hd]
    ·cases h
   ·rename_i hd
    unfold eqSl at h;split at h
    ·simp only [VR] at hu hv;subst hu;subst hv;cases h;simp [Op.equalIn,run_underlying hd]
    ·simp only [VR] at hu hv;subst hv;obtain ⟨_,_,rfl⟩:=hu;cases h;simp [Op.equalIn,run_underlying hd]
    ·simp only [VR] at hu hv;subst hv;obtain ⟨_,_,_,_,_,rfl⟩:=hu;cases h;simp [Op.equalIn,run_underlying hd]
    ·simp only [VR] at hu hv;subst hv;obtain ⟨_,_,rfl⟩:=hu;cases h;simp [Op.equalIn,run_underlying hd]
    ·simp only [VR] at hu hv;subst hu;obtain ⟨_,_,rfl⟩:=hv;cases h;simp [Op.equalIn,run_underlying hd]
    ·simp only [VR] at hu hv;subst hu;obtain ⟨_,_,_,_,_,rfl⟩:=hv;cases h;simp [Op.equalIn,run_underlying hd]
    ·simp only [VR] at hu hv;subst hu;obtain ⟨_,_,rfl⟩:=hv;cases h;simp [Op.equalIn,run_underlying hd]
    ·simp only [VR] at hu hv;subst hv;obtain ⟨_,rfl⟩:=hu;cases h;simp [Op.equalIn,run_underlying hd]
    ·simp only [VR] at hu hv;subst hu;obtain ⟨_,rfl⟩:=hv;cases h;simp [Op.equalIn,run_underlying hd]
    ·cases h
   ·rename_i hd
    unfold eqFn at h;split at h
    ·simp only [VR] at hu hv;subst hu;subst hv;cases h;simp [Op.equalIn,run_underlying hd]
    ·simp only [VR] at hu hv;subst hv;obtain ⟨_,_,_,_,rfl⟩:=hu;cases h;simp [Op.equalIn,run_underlying hd]
    ·simp only [VR] at hu hv;subst hv;obtain ⟨_,_,rfl⟩:=hu;cases h;simp [Op.equalIn,run_underlying hd]
    ·simp only [VR] at hu hv;subst hu;obtain ⟨_,_,_,_,rfl⟩:=hv;cases h;simp [Op.equalIn,run_underlying hd]
    ·cases h
   ·rename_i hd
    unfold eqIf at h;split at h
    ·simp only [VR] at hu hv;subst hu;subst hv;cases h;simp [Op.equalIn,run_underlying hd]
    ·simp only [VR] at hu hv;subst hu;obtain ⟨_,_,rfl⟩:=hv;cases h;simp [Op.equalIn,run_underlying hd]
    ·simp only [VR] at hu hv;subst hv;obtain ⟨_,_,rfl⟩:=hu;cases h;simp [Op.equalIn,run_underlying hd]
    ·simp only [VR] at hu hv
     obtain ⟨a,ha,rfl⟩:=hu
     obtain ⟨c,hc,rfl⟩:=hv
     split at h
     ·rename_i htt
      subst htt
      split at h
      ·rename_i t1 _ _ hcm
       unfold cmpO at hcm
       cases hi:P.info? t1 with
       | none=>rw [hi] at hcm;cases hcm
       | some i=>
         rw [hi] at hcm
         simp only at hcm
         have:=ih k _ _ _ _ h _ _ ha hc w
         simp [Op.equalIn,run_underlying hd,typeInfo,hi,hcm,this]
      ·cases h
     ·rename_i htt
      cases h
      simp [Op.equalIn,run_underlying hd,htt]
    ·cases h
   ·rename_i fs hd
    unfold eqSt at h;split at h
    ·simp only [VR] at hu hv
     obtain ⟨us,ha,rfl⟩:=hu
     obtain ⟨vs,hc,rfl⟩:=hv
     split at h
     ·cases h
     ·rename_i hst
      rw [run_equalIn_struct w (n+k) t _ _ (by simp [Program.fieldsOf,hd]) (by simpa using hst)]
      exact eqFs_ok (ih k) ha hc w _ _ h
    ·cases h
   ·rename_i m e' hd
    unfold eqAr at h;split at h
    ·simp only [VR] at hu hv
     obtain ⟨us,ha,rfl⟩:=hu
     obtain ⟨vs,hc,rfl⟩:=hv
     split at h
     ·rename_i i hi
      rw [run_equalIn_array w (n+k) _ _ hd hi]
      exact eqEls_ok (ih k) ha hc w _ _ h
     ·cases h
    ·cases h
   ·cases h
end Go.Ev
namespace Go.Ev
open Go
set_option linter.unusedVariables false
set_option linter.unusedSimpArgs false
variable {P:Program}
theorem stringOp_add (a c:List UInt8) (h:a.length+c.length≤1000000000) (w:World):(Op.stringOp .add ⟨⟨a⟩⟩ ⟨⟨c⟩⟩).run P w= .ok (.string ⟨⟨a ++ c⟩⟩) w:=by
 have h2: ¬ ((((⟨⟨a⟩⟩:ByteArray).size+(⟨⟨c⟩⟩:ByteArray).size:Nat):Int) > IntKind.i64.max):=by
  simp only [ByteArray.size,List.size_toArray,IntKind.max,IntKind.signed,IntKind.bits]
  simp
  omega
 simp only [Op.stringOp]
 rw [if_neg h2,Sem.run_pure,ByteArray.mk_append_mk]
theorem sop_ok {op:BinOp} {a c:List UInt8} {v:V} (h:sop op a c=some v) (env:Env):∃ u,VR env v u∧∀ w,(Op.stringOp op ⟨⟨a⟩⟩ ⟨⟨c⟩⟩).run P w= .ok u w:=by
 have e1:(⟨⟨a⟩⟩:ByteArray).toList=a:=by rw [ByteArray.toList_eq]
 have e2:(⟨⟨c⟩⟩:ByteArray).toList=c:=by rw [ByteArray.toList_eq]
 have e3:(a == c)=decide (a=c):=by rw [Bool.eq_iff_iff];simp
 unfold sop at h
 cases op <;> simp only at h
 case add=>
  split at h
  · rename_i hl
    rw [Qao,Qao] at hl
    cases h
    exact ⟨_,VR.mks env _,fun w=>by rw [stringOp_add a c hl w,lapp_eq]⟩
  · cases h
 all_goals first
  | (cases h;exact ⟨_,VR.mkb env _,fun w=>by simp only [Op.stringOp,e1,e2,e3];rfl⟩)
  | cases h
theorem iop_ok {op:BinOp} {k:IntKind} {a c:Int} {v:V} (h:iop op k a c=some v) (env:Env) (xT:TypeId):∃ u,VR env v u∧∀ w,(binOp op xT (.int k a) (.int k c)).run P w= .ok u w:=by
 unfold iop at h
 cases op <;> simp only at h
 case quo=>
  split at h
  · cases h
  · rename_i hc
    cases h
    exact ⟨_,VR.mki env _ _,fun w=>by simp [binOp,Op.intDiv,hc]⟩
 case rem=>
  split at h
  · cases h
  · rename_i hc
    cases h
    exact ⟨_,VR.mki env _ _,fun w=>by simp [binOp,Op.intDiv,hc]⟩
 all_goals first
  | (cases h;exact ⟨_,VR.mki env _ _,fun w=>by simp [binOp,Op.intArith]⟩)
  | (cases h;exact ⟨_,VR.mkb env _,fun w=>by simp [binOp,Op.intCmp];try (first | rfl | (rw [Bool.eq_iff_iff];simp))⟩)
  | cases h
noncomputable def kb (k j:IntKind):Bool:=decide (k=j)
noncomputable def eqN (P:Program) (neg:Bool) (t:TypeId) (x z:V):Option V:=match eqV P 60 t x z with
 | some r=>some (.b (if neg then !r else r))
 | none=>none
noncomputable def isC:Operand→Bool | .const _=>true | _=>false
noncomputable def guardV (P:Program) (t:TypeId) (x y:Operand):V→V→Bool
 | .ni,.ni=>isC x || isC y
 | .agg _,.agg _=> !P.eqGuardType P.depth t
 | .any,_=>false
 | _,.any=>false
 | _,_=>true
noncomputable def plainV:V→Bool
 | .i _ _ | .s _ | .any=>false
 | _=>true
noncomputable def eqG (P:Program) (op:BinOp) (t:TypeId) (a c:V):Option V:=
 match op with
 | .eql=>eqN P false t a c
 | .neq=>eqN P true t a c
 | _=>none
noncomputable def binV (P:Program) (op:BinOp) (t:TypeId) (x y:Operand) (a c:V):Option V:=
 match a,c with
 | .i k m,.i j n=>if k=j then iop op k m n else none
 | .s l,.s m=>sop op l m
 | a,c=>if (plainV a && guardV P t x y a c)=true then eqG P op t a c else none
def plainU:Value→Bool
 | .int .. | .float .. | .complex .. | .string .. =>false
 | _=>true
theorem binOp_eql (t:TypeId) (u v:Value) (h:plainU u=true):binOp .eql t u v=(do pure (.bool (←Op.equal t u v))):=by
 cases u <;> simp [plainU] at h <;> cases v <;> rfl
theorem binOp_neq (t:TypeId) (u v:Value) (h:plainU u=true):binOp .neq t u v=(do pure (.bool (!(←Op.equal t u v)))):=by
 cases u <;> simp [plainU] at h <;> cases v <;> rfl
theorem VR.niI {env:Env} {a:V} (h:VR env a .nilIface):a= .ni∨a= .any:=by
 cases a with
 | ni=>exact .inl rfl
 | any=>exact .inr rfl
 | _=>simp [VR] at h
theorem VR.aggI {env:Env} {a:V} {cs:Array Value} (h:VR env a (.agg cs)):(∃ l,a= .agg l)∨a= .any:=by
 cases a with
 | agg l=>exact .inl ⟨l,rfl⟩
 | any=>exact .inr rfl
 | _=>simp [VR] at h
theorem eqGuard_eq (op:BinOp) (h:op= .eql∨op= .neq) (t:TypeId) (x y:Operand) (u v:Value):eqGuard op t x y u v=(match u,v with
  | .nilIface,.nilIface=>do
    if (x matches .const _) || (y matches .const _) then return
    if←Op.eqGuardIn Op.maxDepth t u v then unsupported (.noEntry "binop/eql: two nil values of an interface type with methods, neither of them the literal nil")
  | .agg _,.agg _=>do
    if !(←program).eqGuardType (←program).depth t then return
    if←Op.eqGuardIn Op.maxDepth t u v then unsupported (.noEntry "binop/eql: two nil values of an interface type with methods, in a part of a struct or an array")
  | _,_=>pure ()):=by
 rcases h with rfl | rfl <;> rfl
theorem guardV_ok {env:Env} {t:TypeId} {x y:Operand} {a c:V} {u v:Value} (h:guardV P t x y a c=true) (hu:VR env a u) (hv:VR env c v) {op:BinOp} (hop:op= .eql∨op= .neq) (w:World):(eqGuard op t x y u v).run P w= .ok () w:=by
 rw [eqGuard_eq op hop]
 split
 ·rcases hu.niI with rfl | rfl
  ·rcases hv.niI with rfl | rfl
   ·simp only [guardV,Bool.or_eq_true] at h
    rcases h with h | h
    ·cases x <;> simp [isC] at h
     cases y <;> rfl
    ·cases y <;> simp [isC] at h
     cases x <;> rfl
   ·simp [guardV] at h
  ·simp [guardV] at h
 ·rcases hu.aggI with ⟨l,rfl⟩ | rfl
  ·rcases hv.aggI with ⟨m,rfl⟩ | rfl
   ·simp only [guardV,Bool.not_eq_true'] at h
    simp [run_program,h]
   ·simp [guardV] at h
  ·simp [guardV] at h
 ·rfl
theorem plainV_ok {a:V} (h:plainV a=true) {env:Env} {u:Value} (hu:VR env a u):plainU u=true:=by
 cases a with
 | i k n=>cases h
 | s l=>cases h
 | any=>cases h
 | su b o n cc=>simp only [VR] at hu;obtain ⟨_,_,_,_,_,rfl⟩:=hu;rfl
 | sl b o n cc=>simp only [VR] at hu;obtain ⟨_,_,rfl⟩:=hu;rfl
 | b x=>simp only [VR] at hu;subst hu;rfl
 | p0=>simp only [VR] at hu;subst hu;rfl
 | p b o=>simp only [VR] at hu;obtain ⟨_,_,rfl⟩:=hu;rfl
 | sn=>simp only [VR] at hu;subst hu;rfl
 | e0=>simp only [VR] at hu;obtain ⟨_,_,rfl⟩:=hu;rfl
 | ez=>simp only [VR] at hu;obtain ⟨_,rfl⟩:=hu;rfl
 | f fn x y=>simp only [VR] at hu;obtain ⟨_,_,_,_,rfl⟩:=hu;rfl
 | y l=>simp only [VR] at hu;obtain ⟨_,_,rfl⟩:=hu;rfl
 | nf=>simp only [VR] at hu;subst hu;rfl
 | ifc t v=>simp only [VR] at hu;obtain ⟨_,_,rfl⟩:=hu;rfl
 | ni=>simp only [VR] at hu;subst hu;rfl
 | agg l=>simp only [VR] at hu;obtain ⟨_,_,rfl⟩:=hu;rfl
 | tup l=>simp only [VR] at hu;obtain ⟨_,_,rfl⟩:=hu;rfl
theorem binV_ok {env:Env} {op:BinOp} {t:TypeId} {x y:Operand} {a c v:V} {u z:Value} (h:binV P op t x y a c=some v) (hu:VR env a u) (hz:VR env c z):
  ∃ r,VR env v r∧∀ w,(do eqGuard op t x y u z;binOp op t u z:Sem Value).run P w= .ok r w:=by
 unfold binV at h
 split at h
 ·rename_i k m j n
  split at h
  ·rename_i hk
   subst hk
   simp only [VR] at hu hz
   subst hu hz
   obtain ⟨r,h1,h2⟩:=iop_ok h env t
   exact ⟨r,h1,fun w=>by rw [Sem.run_bind,show (eqGuard op t x y (.int k m) (.int k n)).run P w= .ok () w from by cases op <;> rfl,Result.andThen_ok];exact h2 w⟩
  ·cases h
 ·rename_i l m
  simp only [VR] at hu hz
  subst hu hz
  obtain ⟨r,h1,h2⟩:=sop_ok (P:=P) h env
  refine ⟨r,h1,fun w=>?_⟩
  rw [Sem.run_bind,show (eqGuard op t x y (.string ⟨⟨l⟩⟩) (.string ⟨⟨m⟩⟩)).run P w= .ok () w from by cases op <;> rfl,Result.andThen_ok]
  have:binOp op t (.string ⟨⟨l⟩⟩) (.string ⟨⟨m⟩⟩)=Op.stringOp op ⟨⟨l⟩⟩ ⟨⟨m⟩⟩:=by cases op <;> rfl
  rw [this]
  exact h2 w
 ·split at h
  ·rename_i hg
   rw [Bool.and_eq_true] at hg
   have hp:=plainV_ok hg.1 hu
   unfold eqG at h
   split at h
   ·unfold eqN at h
    split at h
    ·rename_i r he
     cases h
     refine ⟨_,VR.mkb env _,fun w=>?_⟩
     rw [Sem.run_bind,guardV_ok hg.2 hu hz (.inl rfl) w,Result.andThen_ok,binOp_eql t u z hp,Sem.run_bind]
     rw [show Op.equal t u z=Op.equalIn (60+9940) t u z from rfl,eqV_ok env 60 9940 t a c _ he u z hu hz w]
     rfl
    ·cases h
   ·unfold eqN at h
    split at h
    ·rename_i r he
     cases h
     refine ⟨_,VR.mkb env _,fun w=>?_⟩
     rw [Sem.run_bind,guardV_ok hg.2 hu hz (.inr rfl) w,Result.andThen_ok,binOp_neq t u z hp,Sem.run_bind]
     rw [show Op.equal t u z=Op.equalIn (60+9940) t u z from rfl,eqV_ok env 60 9940 t a c _ he u z hu hz w]
     rfl
    ·cases h
   ·cases h
  ·cases h
noncomputable def unV (op:UnOp) (x:V):Option V:=match op,x with
 | .neg,.i k n=>some (.i k (k.wrap (0 - n)))
 | .not,.b x=>some (.b !x)
 | _,_=>none
theorem unV_ok {env:Env} {op:UnOp} {x v:V} {u:Value} (h:unV op x=some v) (hu:VR env x u):∃ r,VR env v r∧∀ w,(Op.unary op u).run P w= .ok r w:=by
 unfold unV at h
 split at h
 ·simp only [VR] at hu;subst hu;cases h;exact ⟨_,VR.mki env _ _,fun w=>rfl⟩
 ·simp only [VR] at hu;subst hu;cases h;exact ⟨_,VR.mkb env _,fun w=>rfl⟩
 ·cases h
noncomputable def pickV (c a b:V):Option V:=match c with | .b true=>some a | .b false=>some b | _=>none
theorem pickV_ok {env:Env} {c a b v:V} {uc ua ub:Value} (h:pickV c a b=some v) (hc:VR env c uc) (ha:VR env a ua) (hb:VR env b ub):∃ r,VR env v r∧∀ w,(do pure (.value (if←asBool uc then ua else ub)):Sem Next).run P w= .ok (.value r) w:=by
 unfold pickV at h
 split at h
 ·simp only [VR] at hc;subst hc;cases h;exact ⟨_,ha,fun w=>rfl⟩
 ·simp only [VR] at hc;subst hc;cases h;exact ⟨_,hb,fun w=>rfl⟩
 ·cases h
noncomputable def nilV:V→Option V
 | .p b o=>some (.p b o)
 | .f fn x y=>some (.f fn x y)
 | .y l=>some (.y l)
 | .ifc t v=>some (.ifc t v)
 | _=>none
noncomputable def convI (P:Program) (d:TypeId):V→Option V
 | .i k n=>match P.underlying d with
   | some (.int j)=>some (.i j (j.wrap n))
   | _=>none
 | .s l=>match P.underlying d with
   | some .string=>some (.s l)
   | _=>none
 | _=>none
noncomputable def okT (P:Program) (t:TypeId):Bool:=match P.underlying t with | some _=>true | none=>false
theorem okT_ok {t:TypeId} (h:okT P t=true):∃ d,P.underlying t=some d:=by
 unfold okT at h
 split at h
 ·exact ⟨_,by assumption⟩
 ·cases h
noncomputable def convV (P:Program) (s d:TypeId) (x:V):Option V:=if okT P s=true then convI P d x else none
theorem convV_ok {env:Env} {s d:TypeId} {x v:V} {u:Value} (h:convV P s d x=some v) (hu:VR env x u):∃ r,VR env v r∧∀ w,(convert s d u).run P w= .ok r w:=by
 unfold convV at h
 split at h
 ·rename_i hs
  obtain ⟨ds,hs⟩:=okT_ok hs
  unfold convI at h
  split at h
  ·simp only [VR] at hu
   subst hu
   split at h
   ·rename_i j hd
    cases h
    exact ⟨_,VR.mki env _ _,fun w=>by simp [convert,run_underlying hs,run_underlying hd,Conv.intToInt]⟩
   ·cases h
  ·simp only [VR] at hu
   subst hu
   split at h
   ·rename_i hd
    cases h
    exact ⟨_,VR.mks env _,fun w=>by simp [convert,run_underlying hs,run_underlying hd]⟩
   ·cases h
  ·cases h
 ·cases h
noncomputable def concV (P:Program) (t:TypeId):Bool:=match P.underlying t with
 | some (.interface _)=>false
 | some _=>true
 | none=>false
theorem concV_ok {t:TypeId} (h:concV P t=true) (u:Value) (w:World):(Instr.makeInterface t u).run P w= .ok (.iface t u) w:=by
 unfold concV at h
 split at h
 ·cases h
 ·rename_i d hn hd
  simp only [Instr.makeInterface,Sem.run_bind,run_underlying hd,Result.andThen_ok]
  cases d <;> first | rfl | exact absurd hd (hn _)
 ·cases h
end Go.Ev
namespace Go.Ev
open Go
set_option linter.unusedVariables false
set_option linter.unusedSimpArgs false
variable {P:Program}
theorem Qcw (r o k:Nat):(⟨r,o,none⟩:Addr).add k=⟨r,o+k,none⟩:=by
 unfold Addr.add
 split
 ·rename_i h;subst h;rfl
 ·rfl
noncomputable def fieldsO (P:Program) (t:TypeId):Option (Array Field):=match P.underlying t with | some (.struct fs)=>some fs | _=>none
theorem fieldsO_ok {t:TypeId} {fs:Array Field} (h:fieldsO P t=some fs):P.underlying t=some (.struct fs):=by
 unfold fieldsO at h
 split at h
 ·cases h;assumption
 ·cases h
noncomputable def fieldO (P:Program) (t:TypeId) (f:Nat):Option Field:=match fieldsO P t with | some fs=>lget fs.toList f | none=>none
theorem fieldO_ok {t:TypeId} {f:Nat} {fl:Field} (h:fieldO P t f=some fl):∃ fs,P.underlying t=some (.struct fs)∧fs[f]? =some fl:=by
 unfold fieldO at h
 split at h
 ·rename_i fs hf
  rw [Qbn] at h
  exact ⟨fs,fieldsO_ok hf,by simpa using h⟩
 ·cases h
noncomputable def fieldAddrV (P:Program) (t:TypeId) (x:V) (f:Nat):Option V:=match x with
 | .p b o=>match fieldO P t f with
   | some fl=>match szO P fl.type with
     | some (n+1)=>some (.p b (o+fl.offset))
     | _=>none
   | none=>none
 | _=>none
theorem fieldAddrV_ok {env:Env} {t:TypeId} {x v:V} {f:Nat} {u:Value} (h:fieldAddrV P t x f=some v) (hu:VR env x u):∃ r,VR env v r∧∀ w,(Instr.fieldAt t u f).run P w= .ok r w:=by
 unfold fieldAddrV at h
 split at h
 ·split at h
  ·rename_i fl hf
   split at h
   ·rename_i n hs
    cases h
    simp only [VR] at hu
    obtain ⟨e,he,rfl⟩:=hu
    obtain ⟨fs,h1,h2⟩:=fieldO_ok hf
    refine ⟨_,VR.mkp he,fun w=>?_⟩
    simp only [Instr.fieldAt,Sem.run_bind,run_underlying h1,Result.andThen_ok,h2,Instr.sureAddr,Sem.run_pure,fieldPlace,Qbx hs w,Qcw]
    rw [if_neg (by omega)]
    simp only [Sem.run_pure,Result.andThen_ok,Nat.add_assoc]
   ·cases h
  ·cases h
 ·cases h
noncomputable def fieldV (P:Program) (t:TypeId) (x:V) (f:Nat):Option V:=match x with
 | .agg c=>match fieldO P t f with
   | some fl=>partV P fl.type c fl.offset
   | none=>none
 | _=>none
theorem fieldV_ok {env:Env} {t:TypeId} {x v:V} {f:Nat} {u:Value} (h:fieldV P t x f=some v) (hu:VR env x u):∃ r,VR env v r∧∀ w,(Instr.field t u f).run P w= .ok r w:=by
 unfold fieldV at h
 split at h
 ·split at h
  ·rename_i fl hf
   simp only [VR] at hu
   obtain ⟨us,hus,rfl⟩:=hu
   obtain ⟨fs,h1,h2⟩:=fieldO_ok hf
   obtain ⟨r,h3,h4⟩:=partV_ok h hus
   refine ⟨r,h3,fun w=>?_⟩
   simp only [Instr.field,Sem.run_bind,run_underlying h1,Result.andThen_ok,h2,asAgg,Sem.run_pure,h4 w]
  ·cases h
 ·cases h
noncomputable def slO (P:Program) (t:TypeId):Option TypeId:=match P.underlying t with | some (.slice e)=>some e | _=>none
theorem Qb {t e:TypeId} (h:slO P t=some e):P.underlying t=some (.slice e):=by
 unfold slO at h
 split at h
 ·cases h;assumption
 ·cases h
noncomputable def arO (P:Program) (t:TypeId):Option (Nat × TypeId):=match P.underlying t with | some (.array n e)=>some (n,e) | _=>none
theorem arO_ok {t e:TypeId} {n:Nat} (h:arO P t=some (n,e)):P.underlying t=some (.array n e):=by
 unfold arO at h
 split at h
 ·cases h;assumption
 ·cases h
noncomputable def ixSl (P:Program) (t:TypeId) (b o len:Nat) (i:Int):Option V:=match slO P t with
 | some e=>match szO P e with
   | some s=>if 0≤i∧i < len then some (.p b (o+i.toNat * s)) else none
   | none=>none
 | none=>none
theorem ixSl_ok {env:Env} {t:TypeId} {b o len c:Nat} {i:Int} {k:IntKind} {v:V} {e:Pl} (h:ixSl P t b o len i=some v) (he:env b=some e):
  ∃ r,VR env v r∧∀ w,(Instr.indexAt t (.slice (some ⟨e.r,e.base+o,none⟩) len c) (.int k i)).run P w= .ok r w:=by
 unfold ixSl at h
 split at h
 ·rename_i el hs
  split at h
  ·rename_i s hz
   split at h
   ·rename_i hi
    cases h
    refine ⟨_,VR.mkp he,fun w=>?_⟩
    simp only [Instr.indexAt,asIntOf,Sem.run_bind,Sem.run_pure,Result.andThen_ok,run_underlying (Qb hs),if_pos hi,Qbx hz w,Qcw,Nat.add_assoc]
   ·cases h
  ·cases h
 ·cases h
noncomputable def indexAddrV (P:Program) (t:TypeId):V→V→Option V
 | .sl b o n _,.i _ i=>ixSl P t b o n i
 | .su b o n _,.i _ i=>ixSl P t b o n i
 | .p b o,.i _ i=>match arO P t with
   | some (n,e)=>match szO P e with
     | some s=>if 0≤i∧i < n then some (.p b (o+i.toNat * s)) else none
     | none=>none
   | none=>none
 | _,_=>none
theorem indexAddrV_ok {env:Env} {t:TypeId} {x y v:V} {u z:Value} (h:indexAddrV P t x y=some v) (hu:VR env x u) (hz:VR env y z):∃ r,VR env v r∧∀ w,(Instr.indexAt t u z).run P w= .ok r w:=by
 unfold indexAddrV at h
 split at h
 ·simp only [VR] at hu hz
  subst hz
  obtain ⟨e,he,rfl⟩:=hu
  exact ixSl_ok h he
 ·simp only [VR] at hu hz
  subst hz
  obtain ⟨e,c,he,_,_,rfl⟩:=hu
  exact ixSl_ok h he
 ·simp only [VR] at hu hz
  subst hz
  obtain ⟨e,he,rfl⟩:=hu
  split at h
  ·rename_i n el hs
   split at h
   ·rename_i s hz
    split at h
    ·rename_i hi
     cases h
     refine ⟨_,VR.mkp he,fun w=>?_⟩
     simp only [Instr.indexAt,asIntOf,Sem.run_bind,Sem.run_pure,Result.andThen_ok,run_underlying (arO_ok hs),Instr.sureAddr,if_pos hi,Qbx hz w,Qcw,Nat.add_assoc]
    ·cases h
   ·cases h
  ·cases h
 ·cases h
noncomputable def indexV (P:Program) (t:TypeId):V→V→Option V
 | .agg c,.i _ i=>match arO P t with
   | some (n,e)=>match szO P e with
     | some s=>if 0≤i∧i < n then partV P e c (i.toNat * s) else none
     | none=>none
   | none=>none
 | .s l,.i _ i=>match P.underlying t with
   | some .string=>if 0≤i then (match lget l i.toNat with | some c=>some (.i .u8 c.toNat) | none=>none) else none
   | _=>none
 | _,_=>none
theorem indexV_ok {env:Env} {t:TypeId} {x y v:V} {u z:Value} (h:indexV P t x y=some v) (hu:VR env x u) (hz:VR env y z):∃ r,VR env v r∧∀ w,(Instr.index t u z).run P w= .ok r w:=by
 unfold indexV at h
 split at h
 ·simp only [VR] at hu hz
  subst hz
  obtain ⟨us,hus,rfl⟩:=hu
  split at h
  ·rename_i n el hs
   split at h
   ·rename_i s hz
    split at h
    ·rename_i hi
     obtain ⟨r,h3,h4⟩:=partV_ok h hus
     refine ⟨r,h3,fun w=>?_⟩
     simp only [Instr.index,asIntOf,Sem.run_bind,Sem.run_pure,Result.andThen_ok,run_underlying (arO_ok hs),if_pos hi,Qbx hz w,h4 w]
    ·cases h
   ·cases h
  ·cases h
 ·simp only [VR] at hu hz
  subst hz hu
  rename_i l k i
  split at h
  ·rename_i hs
   split at h
   ·rename_i hi
    split at h
    ·rename_i c hc
     cases h
     refine ⟨_,VR.mki env _ _,fun w=>?_⟩
     rw [Qbn] at hc
     have:(⟨⟨l⟩⟩:ByteArray)[i.toNat]? =some c:=by
      have hl:i.toNat < l.length:=(List.getElem?_eq_some_iff.1 hc).1
      rw [getElem?_pos (⟨⟨l⟩⟩:ByteArray) i.toNat (by simpa [ByteArray.size] using hl)]
      have:=(List.getElem?_eq_some_iff.1 hc).2
      rw [←this]
      rfl
     simp only [Instr.index,asIntOf,Sem.run_bind,Sem.run_pure,Result.andThen_ok,run_underlying hs,if_pos hi,this]
    ·cases h
   ·cases h
  ·cases h
 ·cases h
noncomputable def extractV:V→Nat→Option V
 | .tup l,n=>lget l n
 | _,_=>none
theorem extractV_ok {env:Env} {x v:V} {n:Nat} {u:Value} (h:extractV x n=some v) (hu:VR env x u):∃ r,VR env v r∧∀ w,(Instr.extract u n).run P w= .ok r w:=by
 unfold extractV at h
 split at h
 ·simp only [VR] at hu
  obtain ⟨us,hus,rfl⟩:=hu
  rw [Qbn] at h
  obtain ⟨y,h1,h2⟩:=hus.getr h
  refine ⟨y,h2,fun w=>?_⟩
  have:(⟨us⟩:Array Value)[n]? =some y:=by simpa using h1
  simp only [Instr.extract,this,Sem.run_pure]
 ·cases h
noncomputable def ifO (P:Program) (t:TypeId):Bool:=match P.underlying t with | some (.interface _)=>true | some _=>false | none=>true
theorem ifO_ok {t:TypeId} (h:ifO P t=false):∃ d,P.underlying t=some d∧∀ m,d≠.interface m:=by
 unfold ifO at h
 split at h
 ·cases h
 ·rename_i d hn hd;exact ⟨d,hd,fun m e=>hn m e⟩
 ·cases h
noncomputable def assertV (P:Program) (t:TypeId) (ok:Bool) (x:V):Option V:=if ifO P t=true then none else
 match x with
 | .ifc u v=>if u=t then some (if ok then .tup [v,.b true] else v) else if ok then (match zeroO P t with | some z=>some (.tup [z,.b false]) | none=>none) else none
 | .ni=>if ok then (match zeroO P t with | some z=>some (.tup [z,.b false]) | none=>none) else none
 | _=>none
theorem assertV_ok {env:Env} {xt t:TypeId} {ok:Bool} {x v:V} {u:Value} (h:assertV P t ok x=some v) (hu:VR env x u):∃ r,VR env v r∧∀ w,(Instr.typeAssert u xt t ok).run P w= .ok r w:=by
 unfold assertV at h
 split at h
 ·cases h
 ·rename_i hi
  obtain ⟨d,hd,hn⟩:=ifO_ok (by simpa using hi)
  have pair:∀ {a:V} {z:Value} {q:Bool},VR env a z→VR env (.tup [a,.b q]) (.tuple #[z,.bool q]):=fun ha=>VR.mktup (VRs.cons ha (VRs.cons (VR.mkb env _) (VRs.nil env)))
  split at h
  ·simp only [VR] at hu
   obtain ⟨z,hz,rfl⟩:=hu
   rename_i ut vv
   split at h
   ·rename_i he
    subst he
    simp only [Option.some.injEq] at h
    subst h
    cases ok with
    | true=>
      refine ⟨_,pair hz,fun w=>?_⟩
      cases d <;> first | exact absurd rfl (hn _) | simp [Instr.typeAssert,run_underlying hd]
    | false=>
      refine ⟨_,hz,fun w=>?_⟩
      cases d <;> first | exact absurd rfl (hn _) | simp [Instr.typeAssert,run_underlying hd]
   ·rename_i he
    split at h
    · rename_i hk
      split at h
      ·rename_i zz hz2
       cases h
       obtain ⟨z0,rfl,hz0⟩:=zeroO_ok hz2
       refine ⟨_,pair (ofC_ok env z0),fun w=>?_⟩
       cases d <;> first | exact absurd rfl (hn _) | simp [Instr.typeAssert,run_underlying hd,he,hk,hz0 w]
      ·cases h
    · cases h
  ·simp only [VR] at hu
   subst hu
   split at h
   ·rename_i hk
    split at h
    · rename_i zz hz2
      cases h
      obtain ⟨z0,rfl,hz0⟩:=zeroO_ok hz2
      refine ⟨_,pair (ofC_ok env z0),fun w=>?_⟩
      cases d <;> first | exact absurd rfl (hn _) | simp [Instr.typeAssert,run_underlying hd,hk,hz0 w]
    · cases h
   ·cases h
  ·cases h
end Go.Ev
namespace Go.Ev
open Go
set_option linter.unusedVariables false
set_option linter.unusedSimpArgs false
variable {P:Program}
def OVR (env:Env):Option V→Option Value→Prop
 | none,none=>True
 | some v,some u=>VR env v u
 | _,_=>False
noncomputable def bnd (o:Option V) (d lim:Nat):Option Nat:=match o with
 | none=>some d
 | some (.i _ n)=>if 0≤n∧n≤lim then some n.toNat else none
 | some _=>none
theorem Qcg {env:Env} {o:Option V} {ou:Option Value} {d lim n:Nat} (h:bnd o d lim=some n) (ho:OVR env o ou):(ou=none∧o=none∧n=d)∨∃ k i,ou=some (.int k i)∧0≤i∧i≤lim∧n=i.toNat:=by
 unfold bnd at h
 split at h
 ·cases ou with
  | none=>cases h;exact .inl ⟨rfl,rfl,rfl⟩
  | some u=>exact ho.elim
 ·rename_i k i
  split at h
  · rename_i hi
    cases h
    cases ou with
    | none=>exact ho.elim
    | some u=>
      simp only [OVR,VR] at ho
      subst ho
      exact .inr ⟨k,i,rfl,hi.1,hi.2,rfl⟩
  · cases h
 ·cases h
theorem Qau (k:IntKind) (i:Int) (y:Nat) (code:BoundsCode) (h0:0≤i) (h1:i≤y) (w:World):(Instr.sliceBound (.int k i) y code).run P w= .ok i.toNat w:=by
 simp only [Instr.sliceBound,asIntOf,Sem.run_bind,Sem.run_pure,Result.andThen_ok]
 rw [if_pos ⟨h0,h1⟩,Sem.run_pure]
theorem bounds_ok {env:Env} {lo hi mx:Option V} {ul uh um:Option Value} {len cap l h m:Nat} (hm:bnd mx cap cap=some m) (hh:bnd hi len m=some h) (hl:bnd lo 0 h=some l) (hx:mx=none∨hi≠none)
  (vl:OVR env lo ul) (vh:OVR env hi uh) (vm:OVR env mx um) (sl:Bool) (w:World):(Instr.sliceBounds sl len cap ul uh um).run P w= .ok (l,h,m) w:=by
 rcases Qcg hm vm with ⟨rfl,em,rfl⟩ | ⟨k1,i1,rfl,a1,a2,rfl⟩
 ·rcases Qcg hh vh with ⟨rfl,eh,rfl⟩ | ⟨k2,i2,rfl,b1,b2,rfl⟩
  · rcases Qcg hl vl with ⟨rfl,el,rfl⟩ | ⟨k3,i3,rfl,c1,c2,rfl⟩
    ·rfl
    ·simp only [Instr.sliceBounds,Sem.run_bind,Sem.run_pure,Result.andThen_ok,Option.isSome_none,Bool.false_eq_true,if_false,Qau _ _ _ _ c1 c2 w]
  · rcases Qcg hl vl with ⟨rfl,el,rfl⟩ | ⟨k3,i3,rfl,c1,c2,rfl⟩
    ·simp only [Instr.sliceBounds,Sem.run_bind,Sem.run_pure,Result.andThen_ok,Qau _ _ _ _ b1 b2 w]
    ·simp only [Instr.sliceBounds,Sem.run_bind,Sem.run_pure,Result.andThen_ok,Option.isSome_none,Bool.false_eq_true,if_false,Qau _ _ _ _ b1 b2 w,Qau _ _ _ _ c1 c2 w]
 ·rcases Qcg hh vh with ⟨rfl,eh,rfl⟩ | ⟨k2,i2,rfl,b1,b2,rfl⟩
  · rcases hx with rfl | hx
    ·cases vm
    ·exact absurd eh hx
  · rcases Qcg hl vl with ⟨rfl,el,rfl⟩ | ⟨k3,i3,rfl,c1,c2,rfl⟩
    ·simp only [Instr.sliceBounds,Sem.run_bind,Sem.run_pure,Result.andThen_ok,Qau _ _ _ _ a1 a2 w,Qau _ _ _ _ b1 b2 w]
    ·simp only [Instr.sliceBounds,Sem.run_bind,Sem.run_pure,Result.andThen_ok,Qau _ _ _ _ a1 a2 w,Qau _ _ _ _ b1 b2 w,Qau _ _ _ _ c1 c2 w]
noncomputable def bnd3 (lo hi mx:Option V) (len cap:Nat):Option (Nat × Nat × Nat):=match bnd mx cap cap with
 | some m=>match bnd hi len m with
   | some h=>match bnd lo 0 h with
     | some l=>match mx,hi with
       | some _,none=>none
       | _,_=>some (l,h,m)
     | none=>none
   | none=>none
 | none=>none
theorem bnd3_ok {env:Env} {lo hi mx:Option V} {ul uh um:Option Value} {len cap l h m:Nat} (hb:bnd3 lo hi mx len cap=some (l,h,m)) (vl:OVR env lo ul) (vh:OVR env hi uh) (vm:OVR env mx um) (sl:Bool) (w:World):
  (Instr.sliceBounds sl len cap ul uh um).run P w= .ok (l,h,m) w:=by
 unfold bnd3 at hb
 split at hb
 ·rename_i m' hm
  split at hb
  · rename_i h' hh
    split at hb
    ·rename_i l' hl
     split at hb
     ·cases hb
     ·rename_i hn
      cases hb
      refine bounds_ok hm hh hl ?_ vl vh vm sl w
      cases mx with
      | none=>exact .inl rfl
      | some a=>
        right
        intro e
        exact hn a rfl e
    ·cases hb
  · cases hb
 ·cases hb
noncomputable def cutSl (b o s l h m:Nat):V:=if m=l then .sl b o (h - l) 0 else .sl b (o+l * s) (h - l) (m - l)
noncomputable def sliceV (P:Program) (t:TypeId) (x:V) (lo hi mx:Option V):Option V:=match x with
 | .s cs=>match P.underlying t,mx with
   | some .string,none=>match bnd3 lo hi none (llen cs) (llen cs) with
     | some (l,h,_)=>some (.s (ldrop (ltake cs h) l))
     | none=>none
   | _,_=>none
 | .sl b o n c=>match slO P t with
   | some e=>match szO P e with
     | some s=>match bnd3 lo hi mx n c with
       | some (l,h,m)=>some (cutSl b o s l h m)
       | none=>none
     | none=>none
   | none=>none
 | .su b o n z=>match slO P t with
   | some e=>match szO P e with
     | some s=>if s=z then (match bnd3 lo hi mx n n with
       | some (l,h,m)=>match mx with
         | some _=>some (cutSl b o s l h m)
         | none=>if l < n then some (.su b (o+l * s) (h - l) s) else some .e0
       | none=>none) else none
     | none=>none
   | none=>none
 | .sn=>match slO P t with
   | some e=>match szO P e with
     | some s=>match bnd3 lo hi mx 0 0 with
       | some (l,h,m)=>if l=0∧h=0∧m=0 then some .sn else none
       | none=>none
     | none=>none
   | none=>none
 | .ez=>match slO P t with
   | some e=>match szO P e with
     | some s=>match bnd3 lo hi mx 0 0 with
       | some (l,h,m)=>if l=0∧h=0∧m=0 then some .ez else none
       | none=>none
     | none=>none
   | none=>none
 | .e0=>match slO P t with
   | some e=>match szO P e with
     | some s=>match bnd3 lo hi mx 0 0 with
       | some (l,h,m)=>if l=0∧h=0∧m=0 then (match mx with
         | some _=>some .ez
         | none=>some .e0) else none
       | none=>none
     | none=>none
   | none=>none
 | .p b o=>match arO P t with
   | some (n,e)=>match szO P e with
     | some s=>match bnd3 lo hi mx n n with
       | some (l,h,m)=>some (cutSl b o s l h m)
       | none=>none
     | none=>none
   | none=>none
 | _=>none
theorem cutSl_ok {env:Env} {b o s l h m:Nat} {e:Pl} (he:env b=some e):VR env (cutSl b o s l h m) (.slice (some (if m=l then (⟨e.r,e.base+o,none⟩:Addr) else (⟨e.r,e.base+o,none⟩:Addr).add (l * s))) (h - l) (m - l)):=by
 unfold cutSl
 by_cases hm:m=l
 ·rw [if_pos hm,if_pos hm]
  simp only [VR]
  exact ⟨e,he,by rw [show m - l=0 by omega]⟩
 ·rw [if_neg hm,if_neg hm]
  simp only [VR,Qcw]
  exact ⟨e,he,by rw [Nat.add_assoc]⟩
theorem bnd_more {o:Option V} {d lim lim' n:Nat} (h:bnd o d lim=some n) (hl:lim≤lim'):bnd o d lim'=some n:=by
 unfold bnd at h ⊢
 split at h
 ·exact h
 ·split at h
  ·rename_i hi
   rw [if_pos ⟨hi.1,by omega⟩]
   exact h
  ·cases h
 ·cases h
theorem sliceV_ok {env:Env} {t:TypeId} {x v:V} {lo hi mx:Option V} {u:Value} {ul uh um:Option Value} (h:sliceV P t x lo hi mx=some v) (hu:VR env x u) (vl:OVR env lo ul) (vh:OVR env hi uh) (vm:OVR env mx um):
  ∃ r,VR env v r∧∀ w,(Instr.sliceAt t u ul uh um).run P w= .ok r w:=by
 unfold sliceV at h
 split at h
 ·rename_i cs
  simp only [VR] at hu
  subst hu
  split at h
  ·rename_i hs
   split at h
   ·rename_i l hh m hb
    cases h
    have hum:um=none:=by cases um with | none=>rfl | some z=>exact vm.elim
    subst hum
    refine ⟨_,VR.mks env _,fun w=>?_⟩
    have h3:(Instr.sliceBounds false cs.length cs.length ul uh none).run P w= .ok (l,hh,m) w:=by
     rw [Qao] at hb
     exact bnd3_ok hb vl vh (by trivial) false w
    have e:(⟨⟨cs⟩⟩:ByteArray).size=cs.length:=rfl
    simp only [Instr.sliceAt,Instr.slice,Sem.run_bind,run_underlying hs,Result.andThen_ok,Option.isSome_none,Bool.false_eq_true,if_false,Sem.run_pure,e,h3]
    rw [Qcc,Qbw]
    congr 2
    apply ByteArray.ext
    rw [ByteArray.data_extract]
    apply Array.ext'
    simp [List.extract_eq_take_drop,List.drop_take]
   ·cases h
  ·cases h
 ·simp only [VR] at hu
  obtain ⟨e,he,rfl⟩:=hu
  split at h
  ·rename_i el hs
   split at h
   ·rename_i s hz
    split at h
    ·rename_i l hh m hb
     cases h
     refine ⟨_,cutSl_ok he,fun w=>?_⟩
     simp only [Instr.sliceAt,Instr.slice,Sem.run_bind,run_underlying (Qb hs),Result.andThen_ok,bnd3_ok hb vl vh vm true w,Qbx hz w,Sem.run_pure]
     congr 2
     split <;> rfl
    ·cases h
   ·cases h
  ·cases h
 ·rename_i b o n z
  simp only [VR] at hu
  obtain ⟨e,c,he,htop,hnc,rfl⟩:=hu
  split at h
  ·rename_i el hs
   split at h
   ·rename_i s hz
    split at h
    ·rename_i hsz
     subst hsz
     split at h
     ·rename_i l hh m hb
      unfold bnd3 at hb
      split at hb
      ·rename_i m' hm
       split at hb
       ·rename_i h' hh'
        split at hb
        ·rename_i l' hl'
         split at hb
         ·cases hb
         ·rename_i hn
          cases hb
          have hx:mx=none∨hi≠none:=by
           cases mx with
           | none=>exact .inl rfl
           | some a=>right;intro e;exact hn a rfl e
          split at h
          ·cases h
           rename_i q
           refine ⟨_,cutSl_ok he,fun w=>?_⟩
           have hm2:bnd (some q) c c=some m:=by
             have:=bnd_more hm hnc
             unfold bnd at this ⊢
             cases q <;> exact this
           simp only [Instr.sliceAt,Instr.slice,Sem.run_bind,run_underlying (Qb hs),Result.andThen_ok,bounds_ok hm2 hh' hl' hx vl vh vm true w,Qbx hz w,Sem.run_pure]
           congr 2
           split <;> rfl
          ·have hm3:m=n:=by unfold bnd at hm;simpa using hm.symm
           subst hm3
           have hb3:∀ w,(Instr.sliceBounds true m c ul uh um).run P w= .ok (l,hh,c) w:=fun w=>bounds_ok (mx:=none) (by rfl) (bnd_more hh' hnc) hl' (.inl rfl) vl vh vm true w
           have hlh:l≤hh:=by
             rcases Qcg hl' vl with ⟨_,_,rfl⟩ | ⟨_,i,_,h0,h1,rfl⟩
             ·exact Nat.zero_le _
             ·omega
           have hhn:hh≤m:=by
             rcases Qcg hh' vh with ⟨_,_,rfl⟩ | ⟨_,i,_,h0,h1,rfl⟩
             ·exact Nat.le_refl _
             ·omega
           split at h
           · rename_i hln
             cases h
             refine ⟨.slice (some ⟨e.r,e.base+(o+l * s),none⟩) (hh - l) (c - l),?_,fun w=>?_⟩
             ·simp only [VR]
              refine ⟨e,c - l,he,?_,by omega,rfl⟩
              have:c * s=l * s+(c - l) * s:=by rw [←Nat.add_mul];congr 1;omega
              omega
             ·simp only [Instr.sliceAt,Instr.slice,Sem.run_bind,run_underlying (Qb hs),Result.andThen_ok,hb3 w,Qbx hz w,Sem.run_pure,Option.map_some]
              rw [if_neg (by omega)]
              simp only [Qcw,Nat.add_assoc]
           · rename_i hln
             cases h
             refine ⟨.slice (some (if c=l then (⟨e.r,e.base+o,none⟩:Addr) else (⟨e.r,e.base+o,none⟩:Addr).add (l * s))) 0 (c - l),?_,fun w=>?_⟩
             ·simp only [VR]
              exact ⟨_,_,rfl⟩
             ·simp only [Instr.sliceAt,Instr.slice,Sem.run_bind,run_underlying (Qb hs),Result.andThen_ok,hb3 w,Qbx hz w,Sem.run_pure,Option.map_some]
              rw [show hh - l=0 by omega]
              congr 2
              split <;> rfl
        ·cases hb
       ·cases hb
      ·cases hb
     ·cases h
    ·cases h
   ·cases h
  ·cases h
 ·simp only [VR] at hu
  subst hu
  split at h
  ·rename_i el hs
   split at h
   ·rename_i s hz
    split at h
    ·rename_i l hh m hb
     split at h
     ·rename_i h0
      obtain ⟨rfl,rfl,rfl⟩:=h0
      cases h
      refine ⟨.slice none 0 0,by simp only [VR],fun w=>?_⟩
      simp only [Instr.sliceAt,Instr.slice,Sem.run_bind,run_underlying (Qb hs),Result.andThen_ok,bnd3_ok hb vl vh vm true w,Qbx hz w,Sem.run_pure]
      rfl
     ·cases h
    ·cases h
   ·cases h
  ·cases h
 ·simp only [VR] at hu
  obtain ⟨a,rfl⟩:=hu
  split at h
  ·rename_i el hs
   split at h
   ·rename_i s hz
    split at h
    ·rename_i l hh m hb
     split at h
     ·rename_i h0
      obtain ⟨rfl,rfl,rfl⟩:=h0
      cases h
      refine ⟨.slice (some a) 0 0,by simp only [VR];exact ⟨a,rfl⟩,fun w=>?_⟩
      simp only [Instr.sliceAt,Instr.slice,Sem.run_bind,run_underlying (Qb hs),Result.andThen_ok,bnd3_ok hb vl vh vm true w,Qbx hz w,Sem.run_pure]
      rfl
     ·cases h
    ·cases h
   ·cases h
  ·cases h
 ·simp only [VR] at hu
  obtain ⟨a,c,rfl⟩:=hu
  split at h
  ·rename_i el hs
   split at h
   ·rename_i s hz
    split at h
    ·rename_i l hh m hb
     split at h
     ·rename_i h0
      obtain ⟨rfl,rfl,rfl⟩:=h0
      unfold bnd3 at hb
      split at hb
      ·rename_i m' hm
       split at hb
       ·rename_i h' hh'
        split at hb
        ·rename_i l' hl'
         split at hb
         ·cases hb
         ·rename_i hn
          cases hb
          have hx:mx=none∨hi≠none:=by
           cases mx with
           | none=>exact .inl rfl
           | some a=>right;intro e;exact hn a rfl e
          split at h
          ·rename_i q
           cases h
           have hm2:bnd (some q) c c=some 0:=by
             have:=bnd_more hm (Nat.zero_le c)
             unfold bnd at this ⊢
             cases q <;> exact this
           refine ⟨.slice (some a) 0 0,by simp only [VR];exact ⟨a,rfl⟩,fun w=>?_⟩
           simp only [Instr.sliceAt,Instr.slice,Sem.run_bind,run_underlying (Qb hs),Result.andThen_ok,bounds_ok hm2 hh' hl' hx vl vh vm true w,Qbx hz w,Sem.run_pure]
           rfl
          ·cases h
           have hb3:∀ w,(Instr.sliceBounds true 0 c ul uh um).run P w= .ok (0,0,c) w:=fun w=>bounds_ok (mx:=none) (by rfl) (bnd_more hh' (Nat.zero_le c)) hl' (.inl rfl) vl vh vm true w
           refine ⟨.slice (some (if c=0 then a else a.add (0 * s))) 0 c,by simp only [VR];exact ⟨_,_,rfl⟩,fun w=>?_⟩
           simp only [Instr.sliceAt,Instr.slice,Sem.run_bind,run_underlying (Qb hs),Result.andThen_ok,hb3 w,Qbx hz w,Sem.run_pure,Option.map_some]
           congr 2
           split <;> rfl
        ·cases hb
       ·cases hb
      ·cases hb
     ·cases h
    ·cases h
   ·cases h
  ·cases h
 ·simp only [VR] at hu
  obtain ⟨e,he,rfl⟩:=hu
  split at h
  ·rename_i n el hs
   split at h
   ·rename_i s hz
    split at h
    ·rename_i l hh m hb
     cases h
     refine ⟨_,cutSl_ok he,fun w=>?_⟩
     simp only [Instr.sliceAt,Sem.run_bind,run_underlying (arO_ok hs),Result.andThen_ok,Instr.sureAddr,Sem.run_pure,bnd3_ok hb vl vh vm false w,Qbx hz w]
    ·cases h
   ·cases h
  ·cases h
 ·cases h
noncomputable def setL (c:List V):Nat→List V→List V:=
 List.rec (motive:=fun _=>Nat→List V→List V) (fun _ _=>[]) (fun x c ih n vs=>Nat.rec (List.rec (x :: c) (fun v vs _=>v :: ih 0 vs) vs) (fun m _=>x :: ih m vs) n) c
theorem setL_nil (n:Nat) (vs:List V):setL [] n vs=[]:=rfl
theorem setL_succ (x:V) (c:List V) (n:Nat) (vs:List V):setL (x :: c) (n+1) vs=x :: setL c n vs:=rfl
theorem setL_zero (x:V) (c:List V) (v:V) (vs:List V):setL (x :: c) 0 (v :: vs)=v :: setL c 0 vs:=rfl
theorem setL_zero_nil (x:V) (c:List V):setL (x :: c) 0 []=x :: c:=rfl
theorem setL_eq:∀ (c:List V) (n:Nat) (vs:List V),n+vs.length≤c.length→setL c n vs=c.take n ++ vs ++ c.drop (n+vs.length)
 | [],n,vs,h=>by
   have h':n+vs.length≤0:=h
   have:vs=[]:=List.eq_nil_of_length_eq_zero (by omega)
   subst this
   simp [setL_nil]
 | x :: c,0,[],_=>by simp [setL_zero_nil]
 | x :: c,0,v :: vs,h=>by
   rw [setL_zero,setL_eq c 0 vs (by simp at h ⊢;omega)]
   simp
 | x :: c,n+1,vs,h=>by
   rw [setL_succ,setL_eq c n vs (by simp at h ⊢;omega)]
   rw [show n+1+vs.length=(n+vs.length)+1 by omega]
   simp
noncomputable def V.cells:V→List V
 | .agg l=>l
 | v=>[v]
noncomputable def V.any? :V→Bool
 | .any=>true
 | _=>false
theorem cells_ok {env:Env} {v:V} {u:Value} (h:VR env v u) (hn:v.any? =false):VRs env v.cells u.cells.toList:=by
 cases v with
 | agg l=>simp only [VR] at h;obtain ⟨us,h1,rfl⟩:=h;exact h1
 | any=>cases hn
 | b x=>have h':=h;simp only [VR] at h;subst h;exact VRs.cons h' (VRs.nil env)
 | i k n=>have h':=h;simp only [VR] at h;subst h;exact VRs.cons h' (VRs.nil env)
 | s l=>have h':=h;simp only [VR] at h;subst h;exact VRs.cons h' (VRs.nil env)
 | p0=>have h':=h;simp only [VR] at h;subst h;exact VRs.cons h' (VRs.nil env)
 | sn=>have h':=h;simp only [VR] at h;subst h;exact VRs.cons h' (VRs.nil env)
 | nf=>have h':=h;simp only [VR] at h;subst h;exact VRs.cons h' (VRs.nil env)
 | ni=>have h':=h;simp only [VR] at h;subst h;exact VRs.cons h' (VRs.nil env)
 | p b o=>have h':=h;simp only [VR] at h;obtain ⟨_,_,rfl⟩:=h;exact VRs.cons h' (VRs.nil env)
 | sl b o n c=>have h':=h;simp only [VR] at h;obtain ⟨_,_,rfl⟩:=h;exact VRs.cons h' (VRs.nil env)
 | su b o n c=>have h':=h;simp only [VR] at h;obtain ⟨_,_,_,_,_,rfl⟩:=h;exact VRs.cons h' (VRs.nil env)
 | e0=>have h':=h;simp only [VR] at h;obtain ⟨_,_,rfl⟩:=h;exact VRs.cons h' (VRs.nil env)
 | ez=>have h':=h;simp only [VR] at h;obtain ⟨_,rfl⟩:=h;exact VRs.cons h' (VRs.nil env)
 | f fn x y=>have h':=h;simp only [VR] at h;obtain ⟨_,_,_,_,rfl⟩:=h;exact VRs.cons h' (VRs.nil env)
 | y l=>have h':=h;simp only [VR] at h;obtain ⟨_,_,rfl⟩:=h;exact VRs.cons h' (VRs.nil env)
 | ifc t v=>have h':=h;simp only [VR] at h;obtain ⟨_,_,rfl⟩:=h;exact VRs.cons h' (VRs.nil env)
 | tup l=>have h':=h;simp only [VR] at h;obtain ⟨_,_,rfl⟩:=h;exact VRs.cons h' (VRs.nil env)
theorem fold_set:∀ (l:List Value) (k off:Nat) (cs:Array Value),off+k+l.length≤cs.size→
   ((l.zipIdx k).foldl (fun cs (c,j)=>cs.setIfInBounds (off+j) c) cs).toList=cs.toList.take (off+k) ++ l ++ cs.toList.drop (off+k+l.length)
 | [],k,off,cs,_=>by simp
 | a :: l,k,off,cs,h=>by
   simp only [List.zipIdx_cons,List.foldl_cons]
   rw [fold_set l (k+1) off _ (by simp at h ⊢;omega)]
   simp only [Array.toList_setIfInBounds]
   have hcs:cs.toList.length=cs.size:=Array.length_toList
   have h1:off+k < cs.toList.length:=by rw [List.length_cons] at h;omega
   rw [show off+(k+1)=off+k+1 by omega]
   rw [List.take_set,List.drop_set_of_lt (by omega),List.take_succ_eq_append_getElem h1]
   rw [List.set_append_right _ _ (by rw [List.length_take];omega)]
   have e:off+k - (cs.toList.take (off+k)).length=0:=by rw [List.length_take];omega
   rw [e]
   simp only [List.set_cons_zero,List.append_assoc,List.cons_append,List.nil_append,List.length_cons]
   rw [show off+k+1+l.length=off+k+(l.length+1) by omega]
noncomputable def fillV (pl:Nat→Option (Nat × Nat)):List V→List (Nat × V)→Option (List V)
 | c,[]=>some c
 | c,(i,v) :: r=>match pl i with
   | some (o,s)=>if v.any? =false∧llen v.cells=s∧o+s≤llen c then fillV pl (setL c o v.cells) r else none
   | none=>none
def PVR (env:Env):List (Nat × V)→List (Nat × Value)→Prop
 | [],[]=>True
 | (i,v) :: r,(j,u) :: s=>i=j∧VR env v u∧PVR env r s
 | _,_=>False
theorem fillV_ok {env:Env} {pl:Nat→Option (Nat × Nat)}:∀ {ps:List (Nat × V)} {us:List (Nat × Value)} {c r:List V} {cu:Array Value},fillV pl c ps=some r→PVR env ps us→VRs env c cu.toList→
   ∃ ru:Array Value,Instr.fill pl cu us=some ru∧VRs env r ru.toList
 | [],[],c,r,cu,h,_,hc=>by simp only [fillV,Option.some.injEq] at h;subst h;exact ⟨cu,rfl,hc⟩
 | [],_ :: _,_,_,_,_,hp,_=>hp.elim
 | _ :: _,[],_,_,_,_,hp,_=>by simp [PVR] at hp
 | (i,v) :: ps,(j,u) :: us,c,r,cu,h,hp,hc=>by
   simp only [PVR] at hp
   obtain ⟨rfl,hv,hr⟩:=hp
   unfold fillV at h
   split at h
   · rename_i o s hpl
     split at h
     ·rename_i hh
      obtain ⟨h1,h2,h3⟩:=hh
      rw [Qao] at h2 h3
      have hcl:=hc.length
      have hcs:=cells_ok hv h1
      have hul:=hcs.length
      have e1:u.cells.size=s:=by rw [←h2, ←hul];simp
      have e2:cu.size=c.length:=by rw [←hcl];simp
      unfold Instr.fill
      rw [hpl]
      simp only
      rw [if_neg (by rw [Bool.or_eq_true,decide_eq_true_iff,decide_eq_true_iff];omega)]
      refine fillV_ok h hr ?_
      rw [←Array.foldl_toList,Array.toList_zipIdx,fold_set u.cells.toList 0 o cu (by simp;omega)]
      rw [setL_eq _ _ _ (by omega)]
      simp only [Nat.add_zero]
      rw [hul]
      exact VRs.append (VRs.append (hc.take _) hcs) (hc.drop _)
     ·cases h
   · cases h
end Go.Ev
namespace Go.Ev
open Go
set_option linter.unusedVariables false
set_option linter.unusedSimpArgs false
variable {P:Program} {w0:World}
theorem cell_at {env:Env} {h:H} {w:World} (x:HR w0 env h w) {b:Nat} {c:List V} {t:Nat} {e:Pl} (hb:h.get b=some (.cells c t)) (he:env b=some e):
  ∃ us,VRs env c us∧∀ j u,us[j]? =some u→w.cell? ⟨e.r,e.base+j,none⟩=some u:=by
 obtain ⟨e',C,fr,he',h2,h3,h4⟩:=x.cells hb
 obtain rfl:=Option.some.inj (he.symm.trans he')
 refine ⟨_,h4,fun j u hu=>?_⟩
 rw [List.getElem?_take] at hu
 split at hu
 ·rw [List.getElem?_drop] at hu
  simp only [World.cell?, h2]
  simpa using hu
 ·cases hu
noncomputable def loadV (P:Program) (h:H) (t:TypeId) (x:V):Option V:=match x with
 | .p b o=>match h.get b with
   | some (.cells c _)=>match aggO P t with
     | some true=>match szO P t with
       | some n=>if o+n≤llen c then some (.agg (ltake (ldrop c o) n)) else none
       | none=>none
     | some false=>lget c o
     | none=>none
   | _=>none
 | _=>none
theorem loadV_ok {env:Env} {h:H} {w:World} (hr:HR w0 env h w) {t:TypeId} {x v:V} {u:Value} (hv:loadV P h t x=some v) (hu:VR env x u):∃ r,VR env v r∧(Instr.loadAt t u).run P w= .ok r w:=by
 unfold loadV at hv
 split at hv
 ·rename_i b o
  simp only [VR] at hu
  obtain ⟨e,he,rfl⟩:=hu
  split at hv
  ·rename_i c tt hb
   obtain ⟨us,hus,hcell⟩:=cell_at hr hb he
   split at hv
   ·rename_i ha
    split at hv
    ·rename_i n hs
     split at hv
     ·rename_i hl
      cases hv
      rw [Qao] at hl
      have hul:=hus.length
      refine ⟨.agg ⟨(us.drop o).take n⟩,?_,?_⟩
      ·rw [Qbw,Qcc]
       exact VR.mkagg ((hus.drop o).take n)
      ·have hn:((us.drop o).take n).length=n:=by rw [List.length_take,List.length_drop];omega
       have:=run_loadCells_list (P:=P) w ⟨e.r,e.base+o,none⟩ ((us.drop o).take n) (fun j v hv=>by
        rw [Qcw]
        rw [List.getElem?_take] at hv
        split at hv
        ·rw [List.getElem?_drop] at hv
         rw [Nat.add_assoc]
         exact hcell _ _ hv
        ·cases hv)
       rw [hn] at this
       simp only [Instr.loadAt,Instr.sureAddr,loadVar,Sem.run_bind,Sem.run_pure,Result.andThen_ok,aggO_ok ha w,if_true,Qbx hs w,this]
     ·cases hv
    ·cases hv
   ·rename_i ha
    rw [Qbn] at hv
    obtain ⟨y,h1,h2⟩:=hus.getr hv
    refine ⟨y,h2,?_⟩
    have hc:=hcell _ _ h1
    simp only [Instr.loadAt,Instr.sureAddr,loadVar,Sem.run_bind,Sem.run_pure,Result.andThen_ok,aggO_ok ha w,Bool.false_eq_true,if_false]
    show (Sem.load .plain _ Sem.pure).run P w=_
    simp only [Sem.run,hc]
   ·cases hv
  ·cases hv
 ·cases hv
noncomputable def oneV:V→Bool
 | .agg _ | .tup _ | .any=>false
 | _=>true
noncomputable def Qcd:List V→Bool:=List.rec true (fun v _ ih=>Bool.rec false ih (oneV v))
theorem allOne_ok:∀ {l:List V},Qcd l=true→∀ v∈l,oneV v=true
 | [],_,v,hv=>by cases hv
 | a :: l,h,v,hv=>by
   have h':Bool.rec (motive:=fun _=>Bool) false (Qcd l) (oneV a)=true:=h
   cases ha:oneV a with
   | false=>rw [ha] at h';cases h'
   | true=>
     rw [ha] at h'
     rcases List.mem_cons.1 hv with rfl | hv
     ·exact ha
     ·exact allOne_ok h' v hv
theorem oneV_ok {env:Env} {v:V} {u:Value} (h:oneV v=true) (hu:VR env v u):u.oneCell'=true:=by
 cases v with
 | agg l=>cases h
 | tup l=>cases h
 | any=>cases h
 | b x=>simp only [VR] at hu;subst hu;rfl
 | i k n=>simp only [VR] at hu;subst hu;rfl
 | s l=>simp only [VR] at hu;subst hu;rfl
 | p0=>simp only [VR] at hu;subst hu;rfl
 | p b o=>simp only [VR] at hu;obtain ⟨_,_,rfl⟩:=hu;rfl
 | sn=>simp only [VR] at hu;subst hu;rfl
 | sl b o n c=>simp only [VR] at hu;obtain ⟨_,_,rfl⟩:=hu;rfl
 | su b o n c=>simp only [VR] at hu;obtain ⟨_,_,_,_,_,rfl⟩:=hu;rfl
 | e0=>simp only [VR] at hu;obtain ⟨_,_,rfl⟩:=hu;rfl
 | ez=>simp only [VR] at hu;obtain ⟨_,rfl⟩:=hu;rfl
 | f fn x y=>simp only [VR] at hu;obtain ⟨_,_,_,_,rfl⟩:=hu;rfl
 | y l=>simp only [VR] at hu;obtain ⟨_,_,rfl⟩:=hu;rfl
 | nf=>simp only [VR] at hu;subst hu;rfl
 | ifc t v=>simp only [VR] at hu;obtain ⟨_,_,rfl⟩:=hu;rfl
 | ni=>simp only [VR] at hu;subst hu;rfl
theorem VRs.mem {env:Env}:∀ {l:List V} {us:List Value},VRs env l us→∀ u∈us,∃ v∈l,VR env v u
 | [],_,h,u,hu=>by simp only [VRs] at h;subst h;cases hu
 | v :: l,_,h,u,hu=>by
   simp only [VRs] at h
   obtain ⟨y,ys,h1,h2,rfl⟩:=h
   rcases List.mem_cons.1 hu with rfl | hu
   ·exact ⟨v,List.mem_cons_self,h1⟩
   ·obtain ⟨v',h3,h4⟩:=VRs.mem h2 u hu;exact ⟨v',List.mem_cons_of_mem _ h3,h4⟩
noncomputable def putV (h:H) (b o:Nat) (vs:List V):Option H:=match h.get b with
 | some (.cells c t)=>if h.fl≤b∧o+llen vs≤llen c∧Qcd vs=true then some (h.put b (.cells (setL c o vs) t)) else none
 | _=>none
theorem putV_ok {env:Env} {h h':H} {w:World} (hr:HR w0 env h w) {b o:Nat} {vs:List V} {us:List Value} {e:Pl} (hp:putV h b o vs=some h') (he:env b=some e) (hv:VRs env vs us):
  ∃ w',(storeCells ⟨e.r,e.base+o,none⟩ us).run P w= .ok () w'∧HR w0 env h' w'∧Gn env h w env w'∧HG h h':=by
 unfold putV at hp
 split at hp
 ·rename_i c t hb
  split at hp
  ·rename_i hc
   obtain ⟨hfl,hlen,hone⟩:=hc
   rw [Qao,Qao] at hlen
   cases hp
   obtain ⟨e',C,he',h2,h3,h4⟩:=hr.cellsW hb hfl
   obtain rfl:=Option.some.inj (he.symm.trans he')
   have hvl:=hv.length
   have h4l:=h4.length
   have hcs0:C.toList.length=C.size:=Array.length_toList
   rw [List.length_take,List.length_drop,hcs0] at h4l
   by_cases hz:us=[]
   ·subst hz
    have hvn:vs=[]:=List.eq_nil_of_length_eq_zero (by simpa using hvl.symm)
    subst hvn
    refine ⟨w,rfl,?_⟩
    have e1:setL c o []=c:=by rw [setL_eq _ _ _ hlen];simp
    rw [e1]
    exact hr.put hb trivial he hfl (But.refl _ _) ⟨C,_,h2,h3,h4,.inl rfl⟩
   ·have hfit:e.base+c.length≤C.size:=by
     have:0 < us.length:=List.length_pos_iff.2 hz
     rw [Nat.min_def] at h4l
     split at h4l <;> omega
    have hul:0 < us.length:=List.length_pos_iff.2 hz
    have hst:=run_storeCells_at P e.r (e.base+o) t us 0 C w h2 (by omega) (fun u hu=>by
     obtain ⟨v,hm,hv'⟩:=hv.mem u hu
     exact oneV_ok (allOne_ok hone v hm) hv')
    simp only [Nat.add_zero] at hst
    refine ⟨_,hst,?_⟩
    have hC:(C.toList.take (e.base+o) ++ us ++ C.toList.drop (e.base+o+us.length)).length=C.size:=by
     rw [List.length_append,List.length_append,List.length_take,List.length_drop,hcs0,Nat.min_eq_left (by omega)]
     omega
    refine hr.put hb trivial he hfl (But.setRow w e.r _) ⟨_,_,setRow_heap w e.r C _ t (0,0) h2,?_,?_,.inl rfl⟩
    ·rw [←h3, ←hC];rfl
    ·show VRs env (setL c o vs) (((C.toList.take (e.base+o) ++ us ++ C.toList.drop (e.base+o+us.length)).drop e.base).take (setL c o vs).length)
     rw [setL_eq _ _ _ hlen]
     have hcl:(c.take o ++ vs ++ c.drop (o+vs.length)).length=c.length:=by
      simp only [List.length_append,List.length_take,List.length_drop];omega
     rw [hcl]
     have key:(((C.toList.take (e.base+o) ++ us ++ C.toList.drop (e.base+o+us.length)).drop e.base).take c.length)=
       (((C.toList.drop e.base).take c.length).take o ++ us ++ ((C.toList.drop e.base).take c.length).drop (o+us.length)):=by
      apply List.ext_getElem?
      intro j
      have hcs:C.toList.length=C.size:=Array.length_toList
      simp only [List.getElem?_take,List.getElem?_drop,List.getElem?_append,List.length_append,List.length_take,List.length_drop,hcs]
      by_cases hj:j < c.length
      ·rw [if_pos hj]
       by_cases hj1:j < o
       · rw [if_pos (by omega),if_pos (by omega),if_pos (by omega),if_pos (by omega),if_pos (by omega),if_pos (by omega),if_pos (by omega)]
       · by_cases hj2:j < o+us.length
         · rw [if_pos (by omega),if_neg (by omega),if_pos (by omega),if_neg (by omega)]
           congr 1
           omega
         · rw [if_neg (by omega),if_neg (by omega),if_pos (by omega)]
           congr 1
           omega
      ·rw [if_neg hj,if_neg (by omega),if_neg (by omega)]
     rw [key,hvl]
     exact VRs.append (VRs.append (h4.take _) hv) (h4.drop _)
  ·cases hp
 ·cases hp
noncomputable def storeV (P:Program) (h:H) (t:TypeId) (x y:V):Option H:=match x with
 | .p b o=>if y.any? =false∧szO P t=some (llen y.cells) then putV h b o y.cells else none
 | _=>none
theorem storeV_ok {env:Env} {h h':H} {w:World} (hr:HR w0 env h w) {t:TypeId} {x y:V} {u z:Value} (hs:storeV P h t x y=some h') (hu:VR env x u) (hz:VR env y z):
  ∃ w',(Instr.storeAt t u z).run P w= .ok () w'∧HR w0 env h' w'∧Gn env h w env w'∧HG h h':=by
 unfold storeV at hs
 split at hs
 ·simp only [VR] at hu
  obtain ⟨e,he,rfl⟩:=hu
  split at hs
  ·rename_i hc
   obtain ⟨hany,hsz⟩:=hc
   rw [Qao] at hsz
   have hcs:=cells_ok hz hany
   have hl:=hcs.length
   obtain ⟨w',h1,h2⟩:=putV_ok (P:=P) hr hs he hcs
   refine ⟨w',?_,h2⟩
   have e2:z.cells.size=y.cells.length:=by rw [←hl];simp
   simp only [Instr.storeAt,Instr.sureAddr,storeVar,Sem.run_bind,Sem.run_pure,Result.andThen_ok,Qbx hsz w]
   rw [if_neg (by rw [e2];simp)]
   simpa using h1
  ·cases hs
 ·cases hs
noncomputable def newV (h:H) (vs:List V) (t:Nat):H:=h.new (.cells vs t)
theorem newV_ok {env:Env} {h:H} {w:World} (hr:HR w0 env h w) {vs:List V} {C:Array Value} {t:Nat} {us:List Value} (hv:VRs env vs us) (hC:C.toList.take vs.length=us):
  ∃ env',env' h.n=some ⟨w.heap.size,0,C.size⟩∧HR w0 env' (newV h vs t) (w.alloc (.cells C t))∧Gn env h w env' (w.alloc (.cells C t))∧HG h (newV h vs t):=by
 refine ⟨env.ext h.n ⟨w.heap.size,0,C.size⟩,Env.ext_self _ _ _,hr.addAlloc C.size ?_⟩
 refine ⟨C,_,heap_alloc_new w _,rfl,?_,.inl rfl⟩
 rw [List.drop_zero,hC]
 exact hv.mono (Env.ext_le (hr.fresh h.n (Nat.le_refl _)) _) _ _
noncomputable def boxV (h:H) (t:TypeId) (x:V):Option (V × H):=if x.any? =true then none else some (.p h.n 0,newV h x.cells t)
theorem boxV_ok {env:Env} {h h':H} {w:World} (hr:HR w0 env h w) {t:TypeId} {x v:V} {u:Value} (hb:boxV h t x=some (v,h')) (hu:VR env x u):
  ∃ env' r w',VR env' v r∧(Instr.box t u).run P w= .ok r w'∧HR w0 env' h' w'∧Gn env h w env' w'∧HG h h':=by
 unfold boxV at hb
 split at hb
 ·cases hb
 ·rename_i hx
  cases hb
  have hc:=cells_ok hu (by simpa using hx)
  obtain ⟨env',h1,h2⟩:=newV_ok hr (C:=u.cells) (t:=t) hc (by rw [←hc.length,List.take_length])
  exact ⟨env',_,_,VR.mkp h1,rfl,h2⟩
noncomputable def allocV (P:Program) (h:H) (t:TypeId):Option (V × H):=match zeroO P t with
 | some z=>boxV h t z
 | none=>none
theorem allocV_ok {env:Env} {h h':H} {w:World} (hr:HR w0 env h w) {t:TypeId} {v:V} (hb:allocV P h t=some (v,h')):
  ∃ env' r w',VR env' v r∧(Instr.alloc t true (.tuple #[])).run P w= .ok r w'∧HR w0 env' h' w'∧Gn env h w env' w'∧HG h h':=by
 unfold allocV at hb
 split at hb
 ·rename_i z hz
  obtain ⟨z0,rfl,hz0⟩:=zeroO_ok hz
  obtain ⟨env',r,w',h1,h2,h3⟩:=boxV_ok (P:=P) hr hb (ofC_ok env z0)
  refine ⟨env',r,w',h1,?_,h3⟩
  simp only [Instr.alloc,Sem.run_bind,hz0 w,Result.andThen_ok]
  exact h2
 ·cases hb
end Go.Ev
namespace Go.Ev
open Go
set_option linter.unusedVariables false
set_option linter.unusedSimpArgs false
variable {P:Program} {w0:World}
noncomputable def elO (P:Program) (e:TypeId):Option (Nat × Nat × List V):=match P.info? e with
 | some i=>match i.zero with
   | some z=>if (ofC z).any? =false∧llen (ofC z).cells=i.size∧0 < i.size∧i.bytes≤1000000∧Qcd (ofC z).cells=true then some (i.size,i.bytes,(ofC z).cells) else none
   | none=>none
 | none=>none
structure ElO (P:Program) (e:TypeId) (s bt:Nat) (zs:List V) (i:TypeInfo) (z:Value):Prop where
 info:P.info? e=some i
 zero:i.zero=some z
 size:i.size=s
 bytes:i.bytes=bt
 zeq:zs=(ofC z).cells
 any:(ofC z).any? =false
 len:zs.length=s
 pos:0 < s
 btle:bt≤1000000
theorem elO_ok {e:TypeId} {s bt:Nat} {zs:List V} (h:elO P e=some (s,bt,zs)):∃ i z,ElO P e s bt zs i z:=by
 unfold elO at h
 split at h
 ·rename_i i hi
  split at h
  ·rename_i z hz
   split at h
   ·rename_i hc
    obtain ⟨h1,h2,h3,h4,h5⟩:=hc
    cases h
    rw [Qao] at h2
    exact ⟨i,z,hi,hz,rfl,rfl,rfl,h1,h2,h3,h4⟩
   ·cases h
  ·cases h
 ·cases h
theorem ElO.cells {e:TypeId} {s bt:Nat} {zs:List V} {i:TypeInfo} {z:Value} (x:ElO P e s bt zs i z) (env:Env):VRs env zs z.cells.toList:=by
 rw [x.zeq]
 exact cells_ok (ofC_ok env z) x.any
theorem ElO.zsize {e:TypeId} {s bt:Nat} {zs:List V} {i:TypeInfo} {z:Value} (x:ElO P e s bt zs i z):z.cells.size=s:=by
 have:=(x.cells (fun _=>none)).length
 rw [Array.length_toList] at this
 rw [this,x.len]
noncomputable def rep (l:List V) (n:Nat):List V:=Nat.rec [] (fun _ ih=>lapp l ih) n
theorem rep_succ (l:List V) (n:Nat):rep l (n+1)=l ++ rep l n:=lapp_eq _ _
theorem rep_ok {env:Env} {l:List V} {us:Array Value} (h:VRs env l us.toList) (hp:0 < us.size):∀ n,VRs env (rep l n) (((Array.range (n * us.size)).map (us[· % us.size]!)).toList):=by
 intro n
 have base:∀ n,((Array.range (n * us.size)).map (us[· % us.size]!)).toList=(List.range (n * us.size)).map (us[· % us.size]!):=fun n=>by simp
 rw [base]
 induction n with
 | zero=>simp [rep,VRs]
 | succ n ih=>
   rw [rep_succ]
   have e:(List.range ((n+1) * us.size)).map (us[· % us.size]!)=us.toList ++ (List.range (n * us.size)).map (us[· % us.size]!):=by
    rw [Nat.succ_mul,Nat.add_comm,List.range_add,List.map_append]
    congr 1
    ·apply List.ext_getElem?
     intro j
     by_cases hj:j < us.size
     ·rw [List.getElem?_map,List.getElem?_range hj]
      simp only [Option.map_some,Nat.mod_eq_of_lt hj,Array.getElem?_toList]
      rw [getElem!_pos us j hj,Array.getElem?_eq_getElem hj]
     ·rw [List.getElem?_eq_none (by simp;omega),List.getElem?_eq_none (by rw [Array.length_toList];omega)]
    ·rw [List.map_map]
     apply List.map_congr_left
     intro a _
     simp [Nat.add_mod_left]
   rw [e]
   exact VRs.append h ih
noncomputable def pmap (r:Operand→V) (l:List (Nat × Operand)):List (Nat × V):=List.rec [] (fun p _ ih=>(p.1,r p.2) :: ih) l
theorem pmap_ok {env:Env} {r:Operand→V} {ρ:Operand→Value} (h:∀ x,VR env (r x) (ρ x)):∀ l:List (Nat × Operand),PVR env (pmap r l) (l.map fun (i,x)=>(i,ρ x))
 | []=>trivial
 | (i,x) :: l=>⟨rfl,h x,pmap_ok h l⟩
noncomputable def placesO (P:Program) (t:TypeId):Option (Nat→Option (Nat × Nat)):=match P.underlying t with
 | some (.struct fs)=>some fun i=>match lget fs.toList i with
   | some f=>match szO P f.type with | some s=>some (f.offset,s) | none=>none
   | none=>none
 | some (.array _ e)=>match szO P e with
   | some s=>some fun i=>some (i * s,s)
   | none=>none
 | _=>none
noncomputable def allSz (P:Program) (t:TypeId):Bool:=match P.underlying t with
 | some (.struct fs)=>fs.toList.all fun f=>match szO P f.type with | some _=>true | none=>false
 | _=>true
noncomputable def buildV (P:Program) (t:TypeId) (ps:List (Nat × V)):Option V:=match zeroO P t with
 | some z=>match placesO P t with
   | some pl=>if z.any? =false∧allSz P t=true then (match fillV pl z.cells ps with | some c=>some (.agg c) | none=>none) else none
   | none=>none
 | none=>none
theorem mapM_places:∀ (fs:List Field) (w:World),(∀ f∈fs,∃ s,szO P f.type=some s)→(fs.mapM (fun f=>do pure (f.offset, ←sizeOf f.type):Field→Sem (Nat × Nat))).run P w= .ok (fs.map fun f=>(f.offset,(szO P f.type).getD 0)) w
 | [],w,_=>rfl
 | f :: fs,w,h=>by
   obtain ⟨s,hs⟩:=h f List.mem_cons_self
   simp only [List.mapM_cons,Sem.run_bind,Qbx hs w,Result.andThen_ok,Sem.run_pure,mapM_places fs w (fun g hg=>h g (List.mem_cons_of_mem _ hg)),List.map_cons,hs,Option.getD_some]
theorem buildV_ok {env:Env} {t:TypeId} {ps:List (Nat × V)} {us:Array (Nat × Value)} {v:V} (h:buildV P t ps=some v) (hp:PVR env ps us.toList):∃ r,VR env v r∧∀ w,(Instr.build t us).run P w= .ok r w:=by
 unfold buildV at h
 split at h
 ·rename_i z hz
  obtain ⟨z0,rfl,hz0⟩:=zeroO_ok hz
  split at h
  ·rename_i pl hpl
   split at h
   ·rename_i hc
    split at h
    ·rename_i c hf
     cases h
     obtain ⟨ru,h1,h2⟩:=fillV_ok hf hp (cells_ok (ofC_ok env z0) hc.1)
     refine ⟨.agg ru,VR.mkagg h2,fun w=>?_⟩
     unfold placesO at hpl
     split at hpl
     ·rename_i fs hu
      cases hpl
      have hall:∀ f∈fs.toList,∃ s,szO P f.type=some s:=by
       intro f hm
       have:=hc.2
       unfold allSz at this
       rw [hu] at this
       have:=List.all_eq_true.1 this f hm
       cases hs:szO P f.type with
       | none=>rw [hs] at this;cases this
       | some s=>exact ⟨s,rfl⟩
      have e:(fun i=>((fs.map fun f=>(f.offset,(szO P f.type).getD 0))[i]? :Option (Nat × Nat)))=fun i=>match lget fs.toList i with
         | some f=>match szO P f.type with | some s=>some (f.offset,s) | none=>none
         | none=>none:=by
       funext i
       rw [Qbn]
       cases hi:fs.toList[i]? with
       | none=>
         have:fs[i]? =none:=by simpa using hi
         simp [this]
       | some f=>
         obtain ⟨s,hs⟩:=hall f (List.mem_of_getElem? hi)
         have:fs[i]? =some f:=by simpa using hi
         simp [this,hs]
      have hm:(fs.mapM (fun f=>do pure (f.offset, ←sizeOf f.type):Field→Sem (Nat × Nat))).run P w= .ok (fs.map fun f=>(f.offset,(szO P f.type).getD 0)) w:=by
       rw [←Array.toArray_toList (xs:=fs)]
       rw [List.mapM_toArray]
       simp only [Sem.run_bind,map_eq_pure_bind,mapM_places fs.toList w hall,Result.andThen_ok,Sem.run_pure,List.map_toArray]
      simp only [Instr.build,Sem.run_bind,hz0 w,Result.andThen_ok,run_underlying hu,hm]
      rw [e,h1]
      rfl
     ·rename_i n el hu
      split at hpl
      ·rename_i s hs
       cases hpl
       simp only [Instr.build,Sem.run_bind,hz0 w,Result.andThen_ok,run_underlying hu,Qbx hs w]
       rw [h1]
       rfl
      ·cases hpl
     ·cases hpl
    ·cases h
   ·cases h
  ·cases h
 ·cases h
noncomputable def Qc (P:Program) (h:H) (t:TypeId) (len:Nat) (ps:List (Nat × V)):Option (V × H):=match slO P t with
 | some e=>match elO P e with
   | some (s,_,zs)=>if len * s≤16777216 then (match fillV (fun i=>some (i * s,s)) (rep zs len) ps with
     | some c=>some (.sl h.n 0 len len,newV h c e)
     | none=>none) else none
   | none=>none
 | none=>none
theorem buildSliceV_ok {env:Env} {h h':H} {w:World} (hr:HR w0 env h w) {t:TypeId} {len:Nat} {ps:List (Nat × V)} {us:Array (Nat × Value)} {v:V} (hv:Qc P h t len ps=some (v,h')) (hp:PVR env ps us.toList):
  ∃ env' r w',VR env' v r∧(Instr.buildSlice t len us).run P w= .ok r w'∧HR w0 env' h' w'∧Gn env h w env' w'∧HG h h':=by
 unfold Qc at hv
 split at hv
 ·rename_i e he
  split at hv
  ·rename_i s bt zs hel
   obtain ⟨i,z,E⟩:=elO_ok hel
   split at hv
   ·rename_i hlen
    split at hv
    ·rename_i c hf
     cases hv
     have hzs:=E.zsize
     have hrep:=rep_ok (E.cells env) (by rw [hzs];exact E.pos) len
     rw [hzs] at hrep
     obtain ⟨ru,h1,h2⟩:=fillV_ok hf hp hrep
     obtain ⟨env',h3,h4⟩:=newV_ok hr (C:=ru) (t:=e) h2 (by rw [←h2.length,List.take_length])
     refine ⟨env',.slice (some ⟨w.heap.size,0,none⟩) len len,_,?_,?_,h4⟩
     ·simp only [VR];exact ⟨_,h3,rfl⟩
     ·have hs0: ¬ (len * s > 2 ^ 24):=by omega
      by_cases hn:len * s=0
      ·have hl0:len=0:=by
        rcases Nat.mul_eq_zero.1 hn with h0 | h0
        ·exact h0
        ·have:=E.pos;omega
       subst hl0
       have h5:(Array.range (0 * s)).map (z.cells[· % s]!)= #[]:=by rw [Nat.zero_mul];simp [Array.range_zero']
       rw [h5] at h1
       simp only [Instr.buildSlice,Sem.run_bind,run_underlying (Qb he),Result.andThen_ok,sizeOf,typeInfo,E.info,E.size,Sem.run_pure,run_program,hs0,if_false,Nat.zero_mul,if_true]
       simp [h1,newRow,Array.range_zero']
      ·simp only [Instr.buildSlice,Sem.run_bind,run_underlying (Qb he),Result.andThen_ok,sizeOf,typeInfo,E.info,E.size,Sem.run_pure,run_program,hs0,if_false,hn]
       simp [zeroValue,typeInfo,E.info,E.zero,hzs,h1,newRow]
    ·cases hv
   ·cases hv
  ·cases hv
 ·cases hv
end Go.Ev
namespace Go.Ev
open Go
set_option linter.unusedVariables false
set_option linter.unusedSimpArgs false
variable {P:Program} {w0:World}
noncomputable def Qdb (P:Program) (h:H) (t:TypeId):V→V→Option (V × H)
 | .i _ l,.i _ c=>match slO P t with
   | some e=>match elO P e with
     | some (s,_,zs)=>if 0≤l∧l≤c∧c≤1000000 then some (.sl h.n 0 l.toNat c.toNat,newV h (rep zs c.toNat) e) else none
     | none=>none
   | none=>none
 | _,_=>none
theorem makeSliceV_ok {env:Env} {h h':H} {w:World} (hr:HR w0 env h w) {t:TypeId} {x y v:V} {u z:Value} (hv:Qdb P h t x y=some (v,h')) (hu:VR env x u) (hz:VR env y z):
  ∃ env' r w',VR env' v r∧(Instr.makeSlice t u z).run P w= .ok r w'∧HR w0 env' h' w'∧Gn env h w env' w'∧HG h h':=by
 unfold Qdb at hv
 split at hv
 ·rename_i kl l kc c
  simp only [VR] at hu hz
  subst hu hz
  split at hv
  ·rename_i e he
   split at hv
   ·rename_i s bt zs hel
    obtain ⟨i,z,E⟩:=elO_ok hel
    split at hv
    ·rename_i hc
     obtain ⟨h0,h1,h2⟩:=hc
     cases hv
     have hb:(i.bytes:Int)≤1000000:=by have:=E.btle;have:=E.bytes;omega
     have hbytes:(i.bytes:Int) * c≤281474976710656:=by
      have:(i.bytes:Int) * c≤1000000 * 1000000:=Int.mul_le_mul hb h2 (by omega) (by omega)
      omega
     have hrun:=run_make (P:=P) w t e i z (Qb he) E.info E.zero kl kc l c h0 h1 hbytes (by omega)
     have hrep:=rep_ok (E.cells env) (by rw [E.zsize];exact E.pos) c.toNat
     have e1:madeCells z.cells (c.toNat * i.size)=(Array.range (c.toNat * z.cells.size)).map (z.cells[· % z.cells.size]!):=by
      unfold madeCells
      rw [E.zsize,E.size]
     obtain ⟨env',h3,h4⟩:=newV_ok hr (C:=madeCells z.cells (c.toNat * i.size)) (t:=e) hrep (by rw [e1, ←hrep.length,List.take_length])
     exact ⟨env',_,_,by simp only [VR];exact ⟨_,h3,rfl⟩,hrun,h4⟩
    ·cases hv
   ·cases hv
  ·cases hv
 ·cases hv
noncomputable def byteVs (l:List UInt8):List V:=lmap (fun c=>.i .u8 c.toNat) l
noncomputable def srcV (P:Program) (h:H) (s:Nat) (xT:TypeId) (x:V):Option (Nat × List V):=match x with
 | .sl d o m _=>match slO P xT with
   | some _=>if m=0 then some (0,[]) else match h.get d with
     | some (.cells c _)=>if o+m * s≤llen c then some (m,ltake (ldrop c o) (m * s)) else none
     | _=>none
   | none=>none
 | .su d o m _=>match slO P xT with
   | some _=>if m=0 then some (0,[]) else match h.get d with
     | some (.cells c _)=>if o+m * s≤llen c then some (m,ltake (ldrop c o) (m * s)) else none
     | _=>none
   | none=>none
 | .sn=>match slO P xT with
   | some _=>some (0,[])
   | none=>none
 | .e0=>match slO P xT with
   | some _=>some (0,[])
   | none=>none
 | .ez=>match slO P xT with
   | some _=>some (0,[])
   | none=>none
 | .s l=>match P.underlying xT with
   | some .string=>if s=1 then some (llen l,byteVs l) else none
   | _=>none
 | _=>none
structure Src (P:Program) (env:Env) (h:H) (w:World) (s:Nat) (xT:TypeId) (u:Value) (m:Nat) (cs:List V) (us:List Value):Prop where
 ty:∃ d,P.underlying xT=some d∧∀ k,d≠.int k
 vr:VRs env cs us
 len:us.length=m * s
 lenOf:∀ w',(Builtin.lenOf u).run P w'= .ok m w'
 first:∀ w',w'.heap=w.heap→(Builtin.firstCells s m u).run P w'= .ok ⟨us⟩ w'
theorem src_cells {env:Env} {h:H} {w:World} (hr:HR w0 env h w) {s m o:Nat} {d:Nat} {c:List V} {t:Nat} {e:Pl} {cap:Nat} (hb:h.get d=some (.cells c t)) (he:env d=some e) (hl:o+m * s≤c.length):
  ∃ us,VRs env (ltake (ldrop c o) (m * s)) us∧us.length=m * s∧∀ w',w'.heap=w.heap→(Builtin.firstCells s m (.slice (some ⟨e.r,e.base+o,none⟩) m cap)).run P w'= .ok ⟨us⟩ w':=by
 obtain ⟨us,hus,hcell⟩:=cell_at hr hb he
 have hul:=hus.length
 refine ⟨(us.drop o).take (m * s),by rw [Qbw,Qcc];exact (hus.drop o).take _,by rw [List.length_take,List.length_drop];omega,fun w' hw=>?_⟩
 refine run_firstCells_some (P:=P) w' s m _ m cap _ (by rw [List.length_take,List.length_drop];omega) (fun j v hv=>?_)
 rw [Qcw]
 rw [List.getElem?_take] at hv
 split at hv
 ·rw [List.getElem?_drop] at hv
  rw [Nat.add_assoc]
  have:=hcell _ _ hv
  unfold World.cell? at this ⊢
  rw [hw]
  exact this
 ·cases hv
theorem srcV_ok {env:Env} {h:H} {w:World} (hr:HR w0 env h w) {s:Nat} {xT:TypeId} {x:V} {u:Value} {m:Nat} {cs:List V} (hs:srcV P h s xT x=some (m,cs)) (hu:VR env x u):∃ us,Src P env h w s xT u m cs us:=by
 unfold srcV at hs
 split at hs
 ·simp only [VR] at hu
  obtain ⟨e,he,rfl⟩:=hu
  split at hs
  ·rename_i hsl
   split at hs
   ·rename_i hm0
    subst hm0
    cases hs
    exact ⟨[],⟨_,Qb hsl,fun k e=>by cases e⟩,VRs.nil env,by simp,fun w'=>rfl,fun w' _=>by simp [Builtin.firstCells,loadCells,loadCellsFrom]⟩
   ·split at hs
    ·rename_i hb
     split at hs
     · rename_i hl
       cases hs
       rw [Qao] at hl
       obtain ⟨us,h1,h2,h3⟩:=src_cells (P:=P) hr hb he hl
       exact ⟨us,⟨_,Qb hsl,fun k e=>by cases e⟩,h1,h2,fun w'=>rfl,h3⟩
     · cases hs
    ·cases hs
  ·cases hs
 ·simp only [VR] at hu
  obtain ⟨e,c0,he,_,_,rfl⟩:=hu
  split at hs
  ·rename_i hsl
   split at hs
   ·rename_i hm0
    subst hm0
    cases hs
    exact ⟨[],⟨_,Qb hsl,fun k e=>by cases e⟩,VRs.nil env,by simp,fun w'=>rfl,fun w' _=>by simp [Builtin.firstCells,loadCells,loadCellsFrom]⟩
   ·split at hs
    ·rename_i hb
     split at hs
     · rename_i hl
       cases hs
       rw [Qao] at hl
       obtain ⟨us,h1,h2,h3⟩:=src_cells (P:=P) hr hb he hl
       exact ⟨us,⟨_,Qb hsl,fun k e=>by cases e⟩,h1,h2,fun w'=>rfl,h3⟩
     · cases hs
    ·cases hs
  ·cases hs
 ·simp only [VR] at hu
  subst hu
  split at hs
  ·rename_i hsl
   cases hs
   exact ⟨[],⟨_,Qb hsl,fun k e=>by cases e⟩,VRs.nil env,by simp,fun w'=>rfl,fun w' _=>by simp [Builtin.firstCells]⟩
  ·cases hs
 ·simp only [VR] at hu
  obtain ⟨a,c,rfl⟩:=hu
  split at hs
  ·rename_i hsl
   cases hs
   exact ⟨[],⟨_,Qb hsl,fun k e=>by cases e⟩,VRs.nil env,by simp,fun w'=>rfl,fun w' _=>by simp [Builtin.firstCells,loadCells,loadCellsFrom]⟩
  ·cases hs
 ·simp only [VR] at hu
  obtain ⟨a,rfl⟩:=hu
  split at hs
  ·rename_i hsl
   cases hs
   exact ⟨[],⟨_,Qb hsl,fun k e=>by cases e⟩,VRs.nil env,by simp,fun w'=>rfl,fun w' _=>by simp [Builtin.firstCells,loadCells,loadCellsFrom]⟩
  ·cases hs
 ·rename_i l
  simp only [VR] at hu
  subst hu
  split at hs
  ·rename_i hsl
   split at hs
   ·rename_i h1
    cases hs
    rw [Qao]
    refine ⟨l.map fun c=>.int .u8 c.toNat,⟨_,hsl,fun k e=>by cases e⟩,?_,by simp [h1],fun w'=>rfl,fun w' _=>?_⟩
    ·unfold byteVs
     rw [lmap_eq]
     clear hsl
     induction l with
     | nil=>exact VRs.nil env
     | cons a l ih=>exact VRs.cons (VR.mki env _ _) ih
    ·simp only [Builtin.firstCells,Sem.run_pure]
     congr 1
     apply Array.ext'
     have:(ByteArray.extract ⟨⟨l⟩⟩ 0 l.length).data.toList=l:=by
       rw [ByteArray.data_extract]
       simp
     simp [this]
   ·cases hs
  ·cases hs
 ·cases hs
section
variable {t xT ty e:TypeId} {i:TypeInfo} {z:Value} {s n m c:Nat} {u:Value} {news olds:List Value} {w:World}
theorem app_room (ht:P.underlying t=some (.slice e)) (hi:P.info? e=some i) (hsz:i.size=s) (hx:∃ d,P.underlying xT=some d∧∀ k,d≠.int k)
  (hlen:(Builtin.lenOf u).run P w= .ok m w) (hf:(Builtin.firstCells s m u).run P w= .ok ⟨news⟩ w) (a:Addr) (hroom:n+m≤c):
  (Builtin.append_ #[t,xT] ty #[.slice (some a) n c,u]).run P w=((storeCells (a.add (n * s)) news).run P w).andThen fun _ w'=>.ok (.slice (some a) (n+m) c) w':=by
 obtain ⟨d,hd,hn⟩:=hx
 have hnd:(d matches .int _)=false:=by cases d <;> first | rfl | exact absurd rfl (hn _)
 simp [Builtin.append_,run_underlying ht,run_underlying hd,sizeOf,typeInfo,hi,hsz,hnd,hlen,hf,hroom]
theorem app_grow (ht:P.underlying t=some (.slice e)) (hi:P.info? e=some i) (hz:i.zero=some z) (hsz:i.size=s) (hx:∃ d,P.underlying xT=some d∧∀ k,d≠.int k)
  (hlen:(Builtin.lenOf u).run P w= .ok m w) (hf:(Builtin.firstCells s m u).run P w.drew= .ok ⟨news⟩ w.drew) (base:Option Addr) (ho:(Builtin.firstCells s n (.slice base n c)).run P w.drew= .ok ⟨olds⟩ w.drew)
  (hgrow:c < n+m) (hle:n+m≤1000000) (hb:i.bytes≤1000000):
  (Builtin.append_ #[t,xT] ty #[.slice base n c,u]).run P w= .ok (.slice (some ⟨w.heap.size,0,none⟩) (n+m) (grownCap w (n+m) c e)) (w.drew.alloc (.cells (⟨olds⟩ ++ ⟨news⟩ ++ Builtin.zeroCells z.cells (grownCap w (n+m) c e - (n+m))) e)):=by
 obtain ⟨d,hd,hn⟩:=hx
 have hnd:(d matches .int _)=false:=by cases d <;> first | rfl | exact absurd rfl (hn _)
 have h1: ¬ (n+m≤c):=by omega
 have h63: ¬ (9223372036854775807 < ((n:Int)+(m:Int))):=by omega
 have hg:Builtin.nextslicecap (n+m) c≤2 * (n+m):=nextslicecap_le hgrow
 have h48: ¬ (281474976710656 < Builtin.nextslicecap (n+m) c * i.bytes):=by
  have:Builtin.nextslicecap (n+m) c * i.bytes≤2000000 * 1000000:=Nat.mul_le_mul (by omega) hb
  omega
 simp [Builtin.append_,run_underlying ht,run_underlying hd,sizeOf,typeInfo,zeroValue,hi,hz,hsz,hnd,hlen,hf,ho,h1,h63,h48,Question.forced,newRow,grownCap]
 congr 2
 apply Array.ext'
 simp [List.append_assoc]
end
noncomputable def app0 (h:H):V→Option (V × H)
 | .sn=>some (.sn,h)
 | .sl b o n c=>if n≤c then some (.sl b o n c,h) else none
 | .su b o n z=>some (.su b o n z,h)
 | .e0=>some (.e0,h)
 | .ez=>some (.ez,h)
 | _=>none
noncomputable def appSl (h:H) (e s m:Nat) (cs:List V) (b o n c:Nat):Option (V × H):=
 if n+m≤c then (match putV h b (o+n * s) cs with
  | some h'=>some (.sl b o (n+m) c,h')
  | none=>none)
 else if n=0 then (if m≤1000000 then some (.su h.n 0 m s,newV h cs e) else none) else match h.get b with
  | some (.cells cb _)=>if o+n * s≤llen cb∧n+m≤1000000 then some (.su h.n 0 (n+m) s,newV h (lapp (ltake (ldrop cb o) (n * s)) cs) e) else none
  | _=>none
noncomputable def appSu (h:H) (e s m:Nat) (cs:List V) (b o n z:Nat):Option (V × H):=match h.get b with
 | some (.cells cb tt)=>if z=s∧tt=e∧h.fl≤b∧o+n * s≤llen cb∧n+m≤1000000∧Qcd cs=true then
    some (.su h.n 0 (n+m) s,(h.put b .gone).new (.cells (lapp (ltake (ldrop cb o) (n * s)) cs) e)) else none
 | _=>none
noncomputable def app1 (h:H) (e s m:Nat) (cs:List V):V→Option (V × H)
 | .sn=>if m≤1000000 then some (.su h.n 0 m s,newV h cs e) else none
 | .sl b o n c=>appSl h e s m cs b o n c
 | .su b o n z=>appSu h e s m cs b o n z
 | .ez=>if m≤1000000 then some (.su h.n 0 m s,newV h cs e) else none
 | _=>none
noncomputable def appendV (P:Program) (h:H) (t xT:TypeId) (x y:V):Option (V × H):=match slO P t with
 | some e=>match elO P e with
   | some (s,_,_)=>match srcV P h s xT y with
     | some (m,cs)=>Bool.rec (app1 h e s m cs x) (app0 h x) (Nat.beq m 0)
     | none=>none
   | none=>none
 | none=>none
theorem app0_ok {env:Env} {h h':H} {w:World} (hr:HR w0 env h w) {t xT ty e:TypeId} {s bt:Nat} {zs:List V} {i:TypeInfo} {z:Value} (ht:P.underlying t=some (.slice e)) (E:ElO P e s bt zs i z) {x v:V} {u y:Value} {us:List Value} {cs:List V} (S:Src P env h w s xT y 0 cs us)
  (hv:app0 h x=some (v,h')) (hu:VR env x u):∃ env' r w',VR env' v r∧(Builtin.append_ #[t,xT] ty #[u,y]).run P w= .ok r w'∧HR w0 env' h' w'∧Gn env h w env' w'∧HG h h':=by
 have hus:us=[]:=List.eq_nil_of_length_eq_zero (by rw [S.len];simp)
 subst hus
 have hf:=S.first w rfl
 have hl:=S.lenOf w
 obtain ⟨d,hd,hn⟩:=S.ty
 have hnd:(d matches .int _)=false:=by cases d <;> first | rfl | exact absurd rfl (hn _)
 unfold app0 at hv
 split at hv
 ·cases hv
  simp only [VR] at hu
  subst hu
  refine ⟨env,.slice none 0 0,w,by simp only [VR],?_,hr,Gn.refl _ _ _,HG.refl _⟩
  simp [Builtin.append_,run_underlying ht,run_underlying hd,sizeOf,typeInfo,E.info,E.size,hnd,hl,hf]
 ·split at hv
  · rename_i b o n c hc
    cases hv
    have hu':=hu
    simp only [VR] at hu
    obtain ⟨e2,he,rfl⟩:=hu
    exact ⟨env,_,w,hu',by rw [app_room ht E.info E.size ⟨d,hd,hn⟩ hl hf _ (by omega)];rfl,hr,Gn.refl _ _ _,HG.refl _⟩
  · cases hv
 ·rename_i b o n c
  cases hv
  have hu':=hu
  simp only [VR] at hu
  obtain ⟨e2,c2,he,h1,h2,rfl⟩:=hu
  exact ⟨env,_,w,hu',by rw [app_room ht E.info E.size ⟨d,hd,hn⟩ hl hf _ (by omega)];rfl,hr,Gn.refl _ _ _,HG.refl _⟩
 ·cases hv
  have hu':=hu
  simp only [VR] at hu
  obtain ⟨a,c,rfl⟩:=hu
  exact ⟨env,_,w,hu',by rw [app_room ht E.info E.size ⟨d,hd,hn⟩ hl hf _ (by omega)];rfl,hr,Gn.refl _ _ _,HG.refl _⟩
 ·cases hv
  have hu':=hu
  simp only [VR] at hu
  obtain ⟨a,rfl⟩:=hu
  exact ⟨env,_,w,hu',by rw [app_room ht E.info E.size ⟨d,hd,hn⟩ hl hf _ (by omega)];rfl,hr,Gn.refl _ _ _,HG.refl _⟩
 ·cases hv
theorem grown_size {olds news:List Value} {z:Array Value} {s n m G:Nat} (h1:olds.length=n * s) (h2:news.length=m * s) (hz:z.size=s) (hG:n+m≤G):((⟨olds⟩:Array Value) ++ ⟨news⟩ ++ Builtin.zeroCells z (G - (n+m))).size=G * s:=by
 have e1:(Builtin.zeroCells z (G - (n+m))).size=(G - (n+m)) * z.size:=by simp [Builtin.zeroCells]
 rw [Array.size_append,Array.size_append,e1,hz]
 show olds.length+news.length+_=_
 rw [h1,h2, ←Nat.add_mul, ←Nat.add_mul]
 congr 1
 omega
theorem grown_take {olds news:List Value} {z:Array Value} {k:Nat}:((⟨olds⟩:Array Value) ++ ⟨news⟩ ++ z).toList.take (olds ++ news).length=olds ++ news:=by
 rw [Array.toList_append,Array.toList_append]
 show ((olds ++ news) ++ z.toList).take _=_
 rw [List.take_left]
theorem app_new {env:Env} {h:H} {w:World} (hr:HR w0 env h w) {t xT ty e:TypeId} {s bt m:Nat} {zs:List V} {i:TypeInfo} {z:Value} (ht:P.underlying t=some (.slice e)) (E:ElO P e s bt zs i z) {y:Value} {us:List Value} {cs:List V} (S:Src P env h w s xT y m cs us) (base:Option Addr) (c:Nat) (hcm:c < m) (hm6:m≤1000000):
  ∃ env' r w',VR env' (.su h.n 0 m s) r∧(Builtin.append_ #[t,xT] ty #[.slice base 0 c,y]).run P w= .ok r w'∧HR w0 env' (newV h cs e) w'∧Gn env h w env' w'∧HG h (newV h cs e):=by
 have hb:i.bytes≤1000000:=by have:=E.btle;have:=E.bytes;omega
 have hfd:=S.first w.drew rfl
 have hl:=S.lenOf w
 have hdr:HR w0 env h w.drew:=HR.heap (w:=w) (w':=w.drew) rfl rfl rfl rfl hr
 have gdr:Gn env h w env w.drew:=Gn.heap rfl rfl rfl rfl
 have ho:(Builtin.firstCells s 0 (.slice base 0 c)).run P w.drew= .ok ⟨[]⟩ w.drew:=by
  cases base <;> simp [Builtin.firstCells,loadCells,loadCellsFrom]
 have hrun:=app_grow (ty:=ty) (n:=0) (c:=c) (olds:=[]) ht E.info E.zero E.size S.ty hl hfd base ho (by omega) (by omega) hb
 rw [Nat.zero_add] at hrun
 have hsz:=grown_size (olds:=[]) (n:=0) (G:=grownCap w m c e) (by simp) S.len E.zsize (by have:=grownCap_ge w m c e;omega)
 rw [Nat.zero_add] at hsz
 have htk:=grown_take (olds:=[]) (news:=us) (z:=Builtin.zeroCells z.cells (grownCap w m c e - m)) (k:=0)
 obtain ⟨env',h3,h4,h5,h6⟩:=newV_ok hdr (C:=⟨[]⟩ ++ ⟨us⟩ ++ Builtin.zeroCells z.cells (grownCap w m c e - m)) (t:=e) S.vr (by rw [←S.vr.length];exact htk)
 refine ⟨env',_,_,?_,hrun,h4,Gn.trans hr.fresh (HG.refl _) gdr h5,h6⟩
 simp only [VR]
 exact ⟨_,grownCap w m c e,h3,by rw [hsz];simp,grownCap_ge w m c e,rfl⟩
theorem app1_ok {env:Env} {h h':H} {w:World} (hr:HR w0 env h w) {t xT ty e:TypeId} {s bt m:Nat} {zs:List V} {i:TypeInfo} {z:Value} (ht:P.underlying t=some (.slice e)) (E:ElO P e s bt zs i z) {x v:V} {u y:Value} {us:List Value} {cs:List V} (S:Src P env h w s xT y m cs us) (hm:0 < m)
  (hv:app1 h e s m cs x=some (v,h')) (hu:VR env x u):∃ env' r w',VR env' v r∧(Builtin.append_ #[t,xT] ty #[u,y]).run P w= .ok r w'∧HR w0 env' h' w'∧Gn env h w env' w'∧HG h h':=by
 have hb:i.bytes≤1000000:=by have:=E.btle;have:=E.bytes;omega
 have hfd:=S.first w.drew rfl
 have hf:=S.first w rfl
 have hl:=S.lenOf w
 have hdr:HR w0 env h w.drew:=HR.heap (w:=w) (w':=w.drew) rfl rfl rfl rfl hr
 have gdr:Gn env h w env w.drew:=Gn.heap rfl rfl rfl rfl
 unfold app1 at hv
 split at hv
 ·split at hv
  · rename_i hm6
    cases hv
    simp only [VR] at hu
    subst hu
    exact app_new hr ht E S none 0 hm hm6
  · cases hv
 ·rename_i b o n c
  simp only [VR] at hu
  obtain ⟨e2,he,rfl⟩:=hu
  unfold appSl at hv
  split at hv
  · rename_i hroom
    split at hv
    ·rename_i h2 hp
     cases hv
     obtain ⟨w',h3,h4,h5,h6⟩:=putV_ok (P:=P) hr hp he S.vr
     refine ⟨env,_,w',by simp only [VR];exact ⟨e2,he,rfl⟩,?_,h4,h5,h6⟩
     rw [app_room ht E.info E.size S.ty hl hf _ hroom,Qcw,Nat.add_assoc,h3]
     rfl
    ·cases hv
  · rename_i hroom
    split at hv
    ·rename_i hn0
     subst hn0
     split at hv
     ·rename_i hm6
      cases hv
      exact app_new hr ht E S _ c (by omega) hm6
     ·cases hv
    ·split at hv
     ·rename_i cb tt hb2
      split at hv
      ·rename_i hc
       obtain ⟨hc1,hc2⟩:=hc
       cases hv
       rw [Qao] at hc1
       obtain ⟨os,g1,g2,g3⟩:=src_cells (P:=P) (cap:=c) hr hb2 he hc1
       have hrun:=app_grow (ty:=ty) (olds:=os) ht E.info E.zero E.size S.ty hl hfd (some ⟨e2.r,e2.base+o,none⟩) (g3 w.drew rfl) (by omega) hc2 hb
       have hsz:=grown_size (olds:=os) (G:=grownCap w (n+m) c e) g2 S.len E.zsize (grownCap_ge w (n+m) c e)
       obtain ⟨env',h3,h4,h5,h6⟩:=newV_ok hdr (C:=⟨os⟩ ++ ⟨us⟩ ++ Builtin.zeroCells z.cells (grownCap w (n+m) c e - (n+m))) (t:=e) (VRs.append g1 S.vr) (by rw [←(VRs.append g1 S.vr).length];exact grown_take (k:=0))
       rw [lapp_eq]
       refine ⟨env',_,_,?_,hrun,h4,Gn.trans hr.fresh (HG.refl _) gdr h5,h6⟩
       simp only [VR]
       exact ⟨_,grownCap w (n+m) c e,h3,by rw [hsz];simp,grownCap_ge w (n+m) c e,rfl⟩
      ·cases hv
     ·cases hv
 ·rename_i b o n zz
  simp only [VR] at hu
  obtain ⟨e2,c,he,htop,hnc,rfl⟩:=hu
  unfold appSu at hv
  split at hv
  · rename_i cb tt hb2
    split at hv
    ·rename_i hc
     obtain ⟨rfl,rfl,hfl,hc1,hc2,hone⟩:=hc
     cases hv
     rw [Qao] at hc1
     rw [lapp_eq]
     obtain ⟨os,g1,g2,g3⟩:=src_cells (P:=P) (cap:=c) hr hb2 he hc1
     by_cases hroom:n+m≤c
     ·obtain ⟨e3,C,he3,q2,q3,q4⟩:=hr.cellsW hb2 hfl
      obtain rfl:=Option.some.inj (he.symm.trans he3)
      have hul:0 < us.length:=by rw [S.len];exact Nat.mul_pos hm E.pos
      have hcm:(n+m) * zz≤c * zz:=Nat.mul_le_mul_right _ hroom
      rw [Nat.add_mul] at hcm
      have hfit:e2.base+o+n * zz+us.length≤C.size:=by rw [S.len,q3];omega
      have hst:=run_storeCells_at P e2.r (e2.base+o+n * zz) tt us 0 C w q2 (by omega) (fun u hu=>by
       obtain ⟨v,hm,hv'⟩:=S.vr.mem u hu
       exact oneV_ok (allOne_ok hone v hm) hv')
      simp only [Nat.add_zero] at hst
      have hcs0:C.toList.length=C.size:=Array.length_toList
      have hC:(C.toList.take (e2.base+o+n * zz) ++ us ++ C.toList.drop (e2.base+o+n * zz+us.length)).length=C.size:=by
       rw [List.length_append,List.length_append,List.length_take,List.length_drop,hcs0,Nat.min_eq_left (by omega)]
       omega
      have hle:=Env.ext_le (hr.fresh h.n (Nat.le_refl _)) ⟨e2.r,e2.base+o,e2.top⟩
      have key:((C.toList.take (e2.base+o+n * zz) ++ us ++ C.toList.drop (e2.base+o+n * zz+us.length)).drop (e2.base+o)).take (n * zz+us.length)=((C.toList.drop e2.base).take cb.length |>.drop o).take (n * zz) ++ us:=by
       apply List.ext_getElem?
       intro j
       simp only [List.getElem?_take,List.getElem?_drop,List.getElem?_append,List.length_append,List.length_take,List.length_drop,hcs0]
       by_cases hj:j < n * zz+us.length
       ·rw [if_pos hj]
        by_cases hj1:j < n * zz
        ·rw [if_pos (by omega),if_pos (by omega),if_pos (by omega),if_pos (by omega),if_pos (by omega),if_pos (by omega)]
         congr 1
         omega
        ·rw [if_pos (by omega),if_neg (by omega),if_neg (by omega)]
         congr 1
         omega
       ·rw [if_neg hj,if_neg (by omega),List.getElem?_eq_none (by omega)]
      obtain ⟨m1,m2,m3⟩:=hr.move (y':=.cells (ltake (ldrop cb o) (n * zz) ++ cs) tt) (e':=⟨e2.r,e2.base+o,e2.top⟩) hb2 trivial he hfl rfl (But.setRow w e2.r _) (by
       refine ⟨(C.toList.take (e2.base+o+n * zz) ++ us ++ C.toList.drop (e2.base+o+n * zz+us.length)).toArray,_,setRow_heap w e2.r C _ tt (0,0) q2,by rw [←q3, ←hC];rfl,?_,.inl rfl⟩
       have hlen:(ltake (ldrop cb o) (n * zz) ++ cs).length=n * zz+us.length:=by
        rw [List.length_append, ←S.vr.length,Qbw,Qcc,List.length_take,List.length_drop];omega
       rw [hlen]
       show VRs _ _ (((C.toList.take (e2.base+o+n * zz) ++ us ++ C.toList.drop (e2.base+o+n * zz+us.length)).drop (e2.base+o)).take (n * zz+us.length))
       rw [key]
       refine VRs.append ?_ (S.vr.mono hle _ _)
       rw [Qbw,Qcc]
       exact ((q4.mono hle _ _).drop o).take _)
      refine ⟨_,.slice (some ⟨e2.r,e2.base+o,none⟩) (n+m) c,_,?_,?_,m1,m2,m3⟩
      ·simp only [VR]
       exact ⟨_,c,Env.ext_self _ _ _,by simpa using htop,hroom,by simp⟩
      ·rw [app_room ht E.info E.size S.ty hl hf _ hroom,Qcw,hst]
       rfl
     ·have hrun:=app_grow (ty:=ty) (olds:=os) ht E.info E.zero E.size S.ty hl hfd (some ⟨e2.r,e2.base+o,none⟩) (g3 w.drew rfl) (by omega) hc2 hb
      have hsz:=grown_size (olds:=os) (G:=grownCap w (n+m) c tt) g2 S.len E.zsize (grownCap_ge w (n+m) c tt)
      obtain ⟨p1,p2,p3⟩:=hr.put (y':=.gone) hb2 trivial he hfl (But.refl w _) trivial
      obtain ⟨env',h3,h4,h5,h6⟩:=newV_ok (HR.heap (w:=w) (w':=w.drew) rfl rfl rfl rfl p1) (C:=⟨os⟩ ++ ⟨us⟩ ++ Builtin.zeroCells z.cells (grownCap w (n+m) c tt - (n+m))) (t:=tt) (VRs.append g1 S.vr) (by rw [←(VRs.append g1 S.vr).length];exact grown_take (k:=0))
      refine ⟨env',_,_,?_,hrun,h4,Gn.trans hr.fresh p3 gdr h5,p3.trans h6⟩
      simp only [VR]
      exact ⟨_,grownCap w (n+m) c tt,h3,by rw [hsz];simp,grownCap_ge w (n+m) c tt,rfl⟩
    ·cases hv
  · cases hv
 ·split at hv
  · rename_i hm6
    cases hv
    simp only [VR] at hu
    obtain ⟨a,rfl⟩:=hu
    exact app_new hr ht E S _ 0 hm hm6
  · cases hv
 ·cases hv
theorem appendV_ok {env:Env} {h h':H} {w:World} (hr:HR w0 env h w) {t xT ty:TypeId} {x y v:V} {u z:Value} (hv:appendV P h t xT x y=some (v,h')) (hu:VR env x u) (hz:VR env y z):
  ∃ env' r w',VR env' v r∧(Builtin.append_ #[t,xT] ty #[u,z]).run P w= .ok r w'∧HR w0 env' h' w'∧Gn env h w env' w'∧HG h h':=by
 unfold appendV at hv
 split at hv
 ·rename_i e he
  split at hv
  ·rename_i s bt zs hel
   obtain ⟨i,z0,E⟩:=elO_ok hel
   split at hv
   ·rename_i m cs hsv
    obtain ⟨us,S⟩:=srcV_ok hr hsv hz
    by_cases hm:m=0
    ·subst hm
     exact app0_ok hr (Qb he) E S hv hu
    ·have e1:Nat.beq m 0=false:=by cases hb:Nat.beq m 0 with | false=>rfl | true=>exact absurd (Nat.eq_of_beq_eq_true hb) hm
     rw [e1] at hv
     exact app1_ok hr (Qb he) E S (by omega) hv hu
   ·cases hv
  ·cases hv
 ·cases hv
end Go.Ev
