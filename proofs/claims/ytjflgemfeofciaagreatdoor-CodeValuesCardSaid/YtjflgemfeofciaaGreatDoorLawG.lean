import Derived.Test.YtjflgemfeofciaaGreatDoorLawF
import Derived.Test.YtjflgemfeofciaaGreatDoorNatT
import Derived.Test.YtjflgemfeofciaaGreatDoorOp4
import Derived.Test.YtjflgemfeofciaaGreatDoorTie
import Derived.Test.YtjflgemfeofciaaGreatDoorCards
import Derived.Lib.LaidTab
import Derived.Lib.LaidU8
import Derived.MakeChecks
import Derived.LaidMore
import Derived.Lay
import Derived.SevenTiedAt
/- What the laws' last texts share. -/
namespace Go.Proofs.YtjflgemfeofciaaGreatDoor
open Go.ChangeShapes Go.WideShapes Go.ChangeAt Go.RowKit Go.Ev
set_option linter.unusedVariables false
set_option maxRecDepth 100000
theorem pow_of_laid {laid : List (String × DataW Unit)} {W : World} (hh : laid = Rows.codeChecksRow.laid) (h : laidMetH Tryz.prog laid W) : Pow W := by
  subst hh
  rw [MakeChecks.laidMetH_plain _ _ _ (by kernel_rfl)] at h
  obtain ⟨g, t, cs, fuel, p, hg, ht, hv, hd⟩ := Go.Lib.laidMet.reads h (n := "internal/strconv.uint64pow10") (d := Rows.laid_internal_strconv_uint64pow10) (by simp [Rows.codeChecksRow])
  have hg' : Tryz.prog.globalNamed "internal/strconv.uint64pow10" = some 1 := by kernel_rfl
  obtain rfl := Option.some.inj (hg'.symm.trans hg)
  have ht' : (Tryz.prog.globals[1]?).map (·.type) = some 259 := by kernel_rfl
  obtain rfl := Option.some.inj (ht'.symm.trans ht)
  have e := Go.Lib.cells_of_tab (zs := Lib.pow10Tab) Tryz.underlying259 Tryz.underlying223 (by kernel_rfl) (by kernel_rfl) hd
  unfold Pow Lib.TabIs
  rw [hv, ← e]
section
variable {H : Type} {enc : TypeId × Value → H} {W : World} {v : Value} {d : DataW H} {p : List MemPlace} {b0 : Nat}
theorem arg_code (hv : Value.okWide Tryz.prog W .any b0 24 v) (h : DataW.Trod enc Tryz.prog W 0 (fun _ => true) true 24 v d p) : ∃ cs c, aV W.heap.size v = .agg cs ∧ CodeR (gW W) cs c := by
  obtain ⟨⟨cs⟩, rfl, _⟩ := okWide_struct Tryz.underlying24 hv
  obtain ⟨fuel, hf⟩ := h
  obtain ⟨c, hc⟩ := open_code (enc := enc) (W := W) (cs := cs) ⟨fuel, _, hf⟩
  exact ⟨_, c, by simp only [aV], hc⟩
theorem arg_version (hv : Value.okWide Tryz.prog W .any b0 97 v) (h : DataW.Trod enc Tryz.prog W 0 (fun _ => true) true 97 v d p) : ∃ cs c, aV W.heap.size v = .agg cs ∧ VersionR (gW W) cs c := by
  obtain ⟨⟨cs⟩, rfl, _⟩ := okWide_struct Tryz.underlying97 hv
  obtain ⟨fuel, hf⟩ := h
  obtain ⟨c, hc⟩ := open_version (enc := enc) (W := W) (cs := cs) ⟨fuel, _, hf⟩
  exact ⟨_, c, by simp only [aV], hc⟩
theorem arg_room (hv : Value.okWide Tryz.prog W .any b0 29 v) (h : DataW.Trod enc Tryz.prog W 0 (fun _ => true) true 29 v d p) : ∃ r : Room, aV W.heap.size v = .agg r.v := by
  obtain ⟨⟨cs⟩, rfl, _⟩ := okWide_struct Tryz.underlying29 hv
  obtain ⟨fuel, hf⟩ := h
  obtain ⟨c, hc⟩ := open_room (enc := enc) (W := W) (cs := cs) ⟨fuel, _, hf⟩
  exact ⟨c, by simp only [aV]; exact congrArg V.agg hc⟩
theorem arg_rooms (hv : Value.okWide Tryz.prog W .any b0 25 v) (h : DataW.Trod enc Tryz.prog W 0 (fun _ => true) true 25 v d p) : ∃ l, RS RoomR 6 (gW W) (aV W.heap.size v) l := by
  obtain ⟨a0, len, cap, rfl⟩ := okWide_slice Tryz.underlying25 hv
  obtain ⟨fuel, hf⟩ := h
  obtain ⟨v, l, e, hr⟩ := open_rooms (enc := enc) (W := W) ⟨fuel, _, hf⟩
  have e : [Value.slice a0 len cap] = [v] := e
  cases e
  exact ⟨l, hr⟩
theorem arg_int (hv : Value.okWide Tryz.prog W .any b0 3 v) : ∃ n : Int, aV W.heap.size v = .i .i64 n := by
  obtain ⟨n, rfl⟩ := okWide_int Tryz.underlying3 hv
  exact ⟨n, by simp only [aV]⟩
end
end Go.Proofs.YtjflgemfeofciaaGreatDoor
