import Derived.Test.YtjflgemfeofciaaGreatDoorMX2
import Derived.Test.YtjflgemfeofciaaGreatDoorMU5
namespace Go.Proofs.YtjflgemfeofciaaGreatDoor
open Go Go.Ev
noncomputable def saneN:List V→Option V
 | []=>some (.b true)
 | _=>none
noncomputable def natS:Nats:=fun f=>match f with
 | 21=>some saneN
 | f=>nat04 f
theorem sane_ok (g:G):Fv Tryz.prog natS (.f 21 [] []) [] g (.b true):=Fv.native (F:=saneN) rfl rfl
end Go.Proofs.YtjflgemfeofciaaGreatDoor
namespace Go.Proofs.YtjflgemfeofciaaGreatDoor
open Go Go.RowKit Go.Ev
set_option linter.unusedVariables false
set_option maxRecDepth 100000
theorem natS_ok {w0:World} (hp:Pow w0):NatOK Tryz.prog w0 natS:=by
 intro f F hF xs v hv env w us hus hbel
 unfold natS at hF
 split at hF
 ·cases hF
  unfold saneN at hv
  split at hv
  ·cases hv
   simp only [VRs] at hus
   subst hus
   rw [enter_run Tryz.func21 (by kernel_rfl) (by kernel_rfl)]
   refine Calls.mono (sane_is w (hp.keep hbel)) ?_
   rintro e w' ⟨rfl,hb⟩
   exact ⟨_,rfl,by simp only [VR],hb⟩
  ·cases hv
 ·exact nat04_ok hp f F hF xs v hv env w us hus hbel
end Go.Proofs.YtjflgemfeofciaaGreatDoor
