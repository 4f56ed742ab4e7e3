import Derived.Test.YtjflgemfeofciaaGreatDoorEwK
import Derived.Test.YtjflgemfeofciaaGreatDoorShelf
import Derived.Lib.SmallJoins
import Derived.Laws.Externs
import Derived.KernelRfl
namespace Go.Proofs.YtjflgemfeofciaaGreatDoor
open Go.RowKit Go.Ev
set_option linter.unusedVariables false
set_option linter.unusedSimpArgs false
def Pow (w:World):Prop:=Lib.TabIs Tryz.prog w "internal/strconv.uint64pow10" .u64 Lib.pow10Tab
theorem Pow.keep {w w':World} (h:Pow w) (hb:Below w.heap.size w w'):Pow w':=by
 cases hg:Tryz.prog.globalNamed "internal/strconv.uint64pow10" with
 | none=>unfold Pow Lib.TabIs World.var? at h;rw [hg] at h;cases h
 | some g=>exact Go.Joins.tab_stays hg h hb (Nat.le_refl _)
theorem itoa_is (n:Int) (h0: -9223372036854775808≤n) (h1:n≤9223372036854775807) (w:World) (ht:Pow w):
   Calls Tryz.prog 116 #[.int .i64 n] w fun e w'=>e= .returned (.string ⟨(Lib.itoa n).toArray⟩)∧Below w.heap.size w w':=
 (Tryz.strconv_Itoa n h0 h1 w ht).mono fun e w' ⟨he,k,os,hw⟩=>⟨he,by
   subst hw
   refine ⟨rfl,rfl,rfl,by simp [Sort.grow],fun j hj=>?_⟩
   show (w.heap ++ os)[j]? =w.heap[j]?
   exact Array.getElem?_append_left hj⟩
noncomputable def nat04:Nats:=fun f=>match f with
 | 116=>some itoaN
 | 182=>some atoiV
 | 192=>some cntN
 | 214=>some ixN
 | _=>none
theorem enter_run {f:FuncId} {fn:Func} (hf:Tryz.prog.funcs[f]? =some fn) (hname:(fn.name == "runtime.NumGoroutine")=false) (hb:fn.body.isNone=false) (args:Array Value) (w:World):
  (callFunc f args).run Tryz.prog w= .ok (.enter f args) w:=by
 have h1:fn.name≠ "runtime.NumGoroutine":=by simpa using hname
 have h2:fn.body≠none:=by intro h;rw [h] at hb;cases hb
 simp [callFunc,hf,h1,h2]
set_option maxRecDepth 100000 in
theorem nat04_ok {w0:World} (hp:Pow w0):NatOK Tryz.prog w0 nat04:=by
 intro f F hF xs v hv env w us hus hbel
 unfold nat04 at hF
 split at hF
 ·cases hF
  unfold itoaN at hv
  split at hv
  ·rename_i n
   split at hv
   ·rename_i hn
    cases hv
    simp only [VRs,VR] at hus
    obtain ⟨u,us1,rfl,rfl,rfl⟩:=hus
    rw [enter_run Tryz.func116 (by kernel_rfl) (by kernel_rfl)]
    refine Calls.mono (itoa_is n hn.1 hn.2 w (hp.keep hbel)) ?_
    rintro e w' ⟨rfl,hb⟩
    refine ⟨_,rfl,?_,hb⟩
    simp only [VR]
    rw [itoaK_eq n hn.1 hn.2]
   ·cases hv
  ·cases hv
 ·cases hF
  unfold atoiV at hv
  split at hv
  ·rename_i l
   split at hv
   ·rename_i hl
    split at hv
    ·rename_i n hn
     cases hv
     simp only [VRs,VR] at hus
     obtain ⟨u,us1,rfl,rfl,rfl⟩:=hus
     rw [enter_run Tryz.func182 (by kernel_rfl) (by kernel_rfl)]
     refine Calls.mono (Tryz.strconv_Atoi ⟨⟨l⟩⟩ n (by rw [Qas] at hl;exact hl) (atoiK_some hn) w) ?_
     rintro e w' ⟨rfl,t,rfl⟩
     refine ⟨_,rfl,?_,Go.Joins.below_bytesWorld _ _ _ _ (Nat.le_refl _)⟩
     simp only [VR,VRs]
     exact ⟨_,⟨_,_,rfl,⟨_,_,rfl,rfl,rfl⟩,rfl⟩,rfl⟩
    ·cases hv
   ·cases hv
  ·cases hv
 ·cases hF
  unfold cntN at hv
  split at hv
  ·rename_i l c
   cases hv
   simp only [VRs,VR] at hus
   obtain ⟨u,us1,rfl,⟨u2,us2,rfl,rfl,rfl⟩,rfl⟩:=hus
   rw [run_callFunc_extern Tryz.func192 (by kernel_rfl) (by kernel_rfl) (by kernel_rfl) (e:=Extern.BytealgCount.count) (by kernel_rfl)]
   have:=Lib.run_countString (P:=Tryz.prog) ⟨⟨l⟩⟩ c w
   rw [show (⟨[Value.string ⟨⟨l⟩⟩,.int .u8 c]⟩:Array Value)= #[.string ⟨⟨l⟩⟩,.int .u8 c] from rfl,this]
   refine ⟨?_,Below.refl _ _⟩
   simp only [VR]
   rw [cntK_eq]
  ·cases hv
 ·cases hF
  unfold ixN at hv
  split at hv
  ·rename_i l c
   cases hv
   simp only [VRs,VR] at hus
   obtain ⟨u,us1,rfl,⟨u2,us2,rfl,rfl,rfl⟩,rfl⟩:=hus
   rw [run_callFunc_extern Tryz.func214 (by kernel_rfl) (by kernel_rfl) (by kernel_rfl) (e:=Extern.BytealgIndexByte.indexByte) (by kernel_rfl)]
   have:=run_indexByte_string (P:=Tryz.prog) ⟨⟨l⟩⟩ c w
   rw [show (⟨[Value.string ⟨⟨l⟩⟩,.int .u8 c]⟩:Array Value)= #[.string ⟨⟨l⟩⟩,.int .u8 c] from rfl,this]
   refine ⟨?_,Below.refl _ _⟩
   simp only [VR]
   rw [Lib.firstIdx_eq,ixK_zero]
  ·cases hv
 ·cases hF
end Go.Proofs.YtjflgemfeofciaaGreatDoor
namespace Go.Proofs.YtjflgemfeofciaaGreatDoor
open Go.RowKit Go.Ev
set_option maxRecDepth 100000
theorem sane_run:yesB (evalF Tryz.prog nat04 4000 21 [])=true:=by kernel_rfl
theorem sane_is (w:World) (hp:Pow w):Calls Tryz.prog 21 #[] w fun e w'=>e= .returned (.bool true)∧Below w.heap.size w w':=
 calls_true sane_run (by kernel_rfl) w (nat04_ok hp) ⟨_,Tryz.func21,(by
  intro h
  have h2:Tryz.f21.body.isNone=false:=by kernel_rfl
  rw [h] at h2
  cases h2),by kernel_rfl⟩ (by kernel_rfl)
end Go.Proofs.YtjflgemfeofciaaGreatDoor
