import Derived.Test.YtjflgemfeofciaaGreatDoorLawF
import Derived.Test.YtjflgemfeofciaaGreatDoorMN1
import Derived.Test.YtjflgemfeofciaaGreatDoorMU2
import Derived.Test.YtjflgemfeofciaaGreatDoorTie
import Derived.Test.YtjflgemfeofciaaGreatDoorCards
import Derived.Lib.LaidTab
import Derived.Lib.LaidU8
import Derived.MakeChecks
import Derived.LaidMore
import Derived.Lay
import Derived.SevenTiedAt
namespace Go.Proofs.YtjflgemfeofciaaGreatDoor
open Go.ChangeShapes Go.WideShapes Go.ChangeAt Go.RowKit Go.Ev
set_option linter.unusedVariables false
set_option maxRecDepth 100000
theorem pow_of_laid {laid:List (String × DataW Unit)} {W:World} (hh:laid=Rows.codeChecksRow.laid) (h:laidMetH Tryz.prog laid W):Pow W:=by
 subst hh
 rw [MakeChecks.laidMetH_plain _ _ _ (by kernel_rfl)] at h
 obtain ⟨g,t,cs,fuel,p,hg,ht,hv,hd⟩:=Go.Lib.laidMet.reads h (n:= "internal/strconv.uint64pow10") (d:=Rows.laid_internal_strconv_uint64pow10) (by simp [Rows.codeChecksRow])
 have hg':Tryz.prog.globalNamed "internal/strconv.uint64pow10"=some 1:=by kernel_rfl
 obtain rfl:=Option.some.inj (hg'.symm.trans hg)
 have ht':(Tryz.prog.globals[1]?).map (·.type)=some 259:=by kernel_rfl
 obtain rfl:=Option.some.inj (ht'.symm.trans ht)
 have e:=Go.Lib.cells_of_tab (zs:=Lib.pow10Tab) Tryz.underlying259 Tryz.underlying223 (by kernel_rfl) (by kernel_rfl) hd
 unfold Pow Lib.TabIs
 rw [hv, ←e]
section
variable {H:Type} {enc:TypeId × Value→H} {W:World} {v:Value} {d:DataW H} {p:List MemPlace} {b0:Nat}
end
end Go.Proofs.YtjflgemfeofciaaGreatDoor
