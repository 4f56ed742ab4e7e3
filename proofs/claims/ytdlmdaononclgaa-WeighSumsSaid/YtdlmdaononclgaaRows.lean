/-
  No cell of these rows narrows 'for every input' (looked for: loops, veiled, ifaces, maps, wideKeys, modest, calm, conditions, laid).
  DERIVED. THE GIVEN ROWS OF THIS SEAT. 9 by the template 'for every input the law returns true; each argument reads behind the call as it read before'; 0 by the template 'total and deterministic' (their statements: YtdlmdaononclgaaTotals.lean).
  GIVEN WITH THE SEED: the statements are not yours to turn. If you find one false, say at which input.
  Laid BY PROGRAM, IN A SANDBOX (cutbox-rows.mjs): the forced cells as the released guide's own fill.sh prints them over the translation c89130404166ea3a… (all of the seat's roots in one cut). By AI agents, Wed Nov 11 2026. No macro, syntax, notation, axiom, sorry.
-/
import Derived.Test.YtdlmdaononclgaaChecked
import GoSem.Claim
import GoSem.ClaimJoined
import GoSem.ClaimMapViews
import Derived.JoinedTies
import Derived.KernelRfl
namespace Go.Proofs.Ytdlmdaononclgaa
/- THE CELL 'sum', in the pinned program and in every row, IS THE sha256 OF THE DUMP (.gsa) THAT YtdlmdaononclgaaProg.lean LOADS. Nothing in Lean hashes anything: it is a label: what it is worth is what the hold of that sum in a sandbox is worth. -/
noncomputable def Try.pinned : Pinned := { name := "ytdlmdaononclgaa", sum := "c89130404166ea3af36aea4b4d750f8fd7c2d8e6df0fa2fd4799da665c4c2f51", checked := Try.checked }
namespace Rows
def none {H : Type} : Left H := { results := [], args := [] }

/-- 'moorsomlaw01.WeighScales': WHATEVER THE INPUT: true; the input reads as it did. -/
def weighScalesSpec : ChangeSpec := { name := "weighScales", fn := fun _ => fun
  | [d1, d2, d3] => { results := [.lit (.bool true)], args := [d1, d2, d3] }
  | _ => none }
def weighScalesRow : OpenClaim := { program := "ytdlmdaononclgaa", sum := "c89130404166ea3af36aea4b4d750f8fd7c2d8e6df0fa2fd4799da665c4c2f51", func := "moorsom/moorsomlaw01.WeighScales", spec := "weighScales", unfollowed := true, recurses := true, apart := false }
def WeighScalesSaid : Prop := weighScalesRow.holds Try.pinned (OpenSpec.ofChange weighScalesSpec)

/-- ITS FALSE NEIGHBOUR: 'it returns false'. Refute it at one input. -/
def weighScalesWrong : ChangeSpec := { name := "weighScales", fn := fun _ => fun
  | [d1, d2, d3] => { results := [.lit (.bool false)], args := [d1, d2, d3] }
  | _ => none }
def WeighScalesWrongFalsely : Prop := weighScalesRow.holds Try.pinned (OpenSpec.ofChange weighScalesWrong)

/-- 'moorsomlaw01.WeighVolumes': WHATEVER THE INPUT: true; the input reads as it did. -/
def weighVolumesSpec : ChangeSpec := { name := "weighVolumes", fn := fun _ => fun
  | [d1, d2] => { results := [.lit (.bool true)], args := [d1, d2] }
  | _ => none }
def weighVolumesRow : OpenClaim := { program := "ytdlmdaononclgaa", sum := "c89130404166ea3af36aea4b4d750f8fd7c2d8e6df0fa2fd4799da665c4c2f51", func := "moorsom/moorsomlaw01.WeighVolumes", spec := "weighVolumes", unfollowed := true, recurses := true, apart := false }
def WeighVolumesSaid : Prop := weighVolumesRow.holds Try.pinned (OpenSpec.ofChange weighVolumesSpec)

/-- ITS FALSE NEIGHBOUR: 'it returns false'. Refute it at one input. -/
def weighVolumesWrong : ChangeSpec := { name := "weighVolumes", fn := fun _ => fun
  | [d1, d2] => { results := [.lit (.bool false)], args := [d1, d2] }
  | _ => none }
def WeighVolumesWrongFalsely : Prop := weighVolumesRow.holds Try.pinned (OpenSpec.ofChange weighVolumesWrong)

/-- 'moorsomlaw01.WeighAreas': WHATEVER THE INPUT: true; the input reads as it did. -/
def weighAreasSpec : ChangeSpec := { name := "weighAreas", fn := fun _ => fun
  | [d1, d2, d3] => { results := [.lit (.bool true)], args := [d1, d2, d3] }
  | _ => none }
def weighAreasRow : OpenClaim := { program := "ytdlmdaononclgaa", sum := "c89130404166ea3af36aea4b4d750f8fd7c2d8e6df0fa2fd4799da665c4c2f51", func := "moorsom/moorsomlaw01.WeighAreas", spec := "weighAreas", unfollowed := true, recurses := true, apart := false }
def WeighAreasSaid : Prop := weighAreasRow.holds Try.pinned (OpenSpec.ofChange weighAreasSpec)

/-- ITS FALSE NEIGHBOUR: 'it returns false'. Refute it at one input. -/
def weighAreasWrong : ChangeSpec := { name := "weighAreas", fn := fun _ => fun
  | [d1, d2, d3] => { results := [.lit (.bool false)], args := [d1, d2, d3] }
  | _ => none }
def WeighAreasWrongFalsely : Prop := weighAreasRow.holds Try.pinned (OpenSpec.ofChange weighAreasWrong)

/-- 'moorsomlaw01.WeighPlaces': WHATEVER THE INPUT: true; the input reads as it did. -/
def weighPlacesSpec : ChangeSpec := { name := "weighPlaces", fn := fun _ => fun
  | [d] => { results := [.lit (.bool true)], args := [d] }
  | _ => none }
def weighPlacesRow : OpenClaim := { program := "ytdlmdaononclgaa", sum := "c89130404166ea3af36aea4b4d750f8fd7c2d8e6df0fa2fd4799da665c4c2f51", func := "moorsom/moorsomlaw01.WeighPlaces", spec := "weighPlaces", unfollowed := true, recurses := true, apart := false }
def WeighPlacesSaid : Prop := weighPlacesRow.holds Try.pinned (OpenSpec.ofChange weighPlacesSpec)

/-- ITS FALSE NEIGHBOUR: 'it returns false'. Refute it at one input. -/
def weighPlacesWrong : ChangeSpec := { name := "weighPlaces", fn := fun _ => fun
  | [d] => { results := [.lit (.bool false)], args := [d] }
  | _ => none }
def WeighPlacesWrongFalsely : Prop := weighPlacesRow.holds Try.pinned (OpenSpec.ofChange weighPlacesWrong)

/-- 'moorsomlaw01.WeighExact': WHATEVER THE INPUT: true; the input reads as it did. -/
def weighExactSpec : ChangeSpec := { name := "weighExact", fn := fun _ => fun
  | [d1, d2] => { results := [.lit (.bool true)], args := [d1, d2] }
  | _ => none }
def weighExactRow : OpenClaim := { program := "ytdlmdaononclgaa", sum := "c89130404166ea3af36aea4b4d750f8fd7c2d8e6df0fa2fd4799da665c4c2f51", func := "moorsom/moorsomlaw01.WeighExact", spec := "weighExact", unfollowed := true, recurses := true, apart := false }
def WeighExactSaid : Prop := weighExactRow.holds Try.pinned (OpenSpec.ofChange weighExactSpec)

/-- ITS FALSE NEIGHBOUR: 'it returns false'. Refute it at one input. -/
def weighExactWrong : ChangeSpec := { name := "weighExact", fn := fun _ => fun
  | [d1, d2] => { results := [.lit (.bool false)], args := [d1, d2] }
  | _ => none }
def WeighExactWrongFalsely : Prop := weighExactRow.holds Try.pinned (OpenSpec.ofChange weighExactWrong)

/-- 'moorsomlaw01.WeighFracs': WHATEVER THE INPUT: true; the input reads as it did. -/
def weighFracsSpec : ChangeSpec := { name := "weighFracs", fn := fun _ => fun
  | [d1, d2, d3] => { results := [.lit (.bool true)], args := [d1, d2, d3] }
  | _ => none }
def weighFracsRow : OpenClaim := { program := "ytdlmdaononclgaa", sum := "c89130404166ea3af36aea4b4d750f8fd7c2d8e6df0fa2fd4799da665c4c2f51", func := "moorsom/moorsomlaw01.WeighFracs", spec := "weighFracs", unfollowed := true, recurses := true, apart := false }
def WeighFracsSaid : Prop := weighFracsRow.holds Try.pinned (OpenSpec.ofChange weighFracsSpec)

/-- ITS FALSE NEIGHBOUR: 'it returns false'. Refute it at one input. -/
def weighFracsWrong : ChangeSpec := { name := "weighFracs", fn := fun _ => fun
  | [d1, d2, d3] => { results := [.lit (.bool false)], args := [d1, d2, d3] }
  | _ => none }
def WeighFracsWrongFalsely : Prop := weighFracsRow.holds Try.pinned (OpenSpec.ofChange weighFracsWrong)

/-- 'moorsomlaw01.WeighFields': WHATEVER THE INPUT: true; the input reads as it did. -/
def weighFieldsSpec : ChangeSpec := { name := "weighFields", fn := fun _ => fun
  | [d1, d2] => { results := [.lit (.bool true)], args := [d1, d2] }
  | _ => none }
def weighFieldsRow : OpenClaim := { program := "ytdlmdaononclgaa", sum := "c89130404166ea3af36aea4b4d750f8fd7c2d8e6df0fa2fd4799da665c4c2f51", func := "moorsom/moorsomlaw01.WeighFields", spec := "weighFields", unfollowed := true, recurses := true, apart := false }
def WeighFieldsSaid : Prop := weighFieldsRow.holds Try.pinned (OpenSpec.ofChange weighFieldsSpec)

/-- ITS FALSE NEIGHBOUR: 'it returns false'. Refute it at one input. -/
def weighFieldsWrong : ChangeSpec := { name := "weighFields", fn := fun _ => fun
  | [d1, d2] => { results := [.lit (.bool false)], args := [d1, d2] }
  | _ => none }
def WeighFieldsWrongFalsely : Prop := weighFieldsRow.holds Try.pinned (OpenSpec.ofChange weighFieldsWrong)

/-- 'moorsomlaw01.WeighParts': WHATEVER THE INPUT: true; the input reads as it did. -/
def weighPartsSpec : ChangeSpec := { name := "weighParts", fn := fun _ => fun
  | [d1, d2, d3] => { results := [.lit (.bool true)], args := [d1, d2, d3] }
  | _ => none }
def weighPartsRow : OpenClaim := { program := "ytdlmdaononclgaa", sum := "c89130404166ea3af36aea4b4d750f8fd7c2d8e6df0fa2fd4799da665c4c2f51", func := "moorsom/moorsomlaw01.WeighParts", spec := "weighParts", unfollowed := true, recurses := true, apart := false }
def WeighPartsSaid : Prop := weighPartsRow.holds Try.pinned (OpenSpec.ofChange weighPartsSpec)

/-- ITS FALSE NEIGHBOUR: 'it returns false'. Refute it at one input. -/
def weighPartsWrong : ChangeSpec := { name := "weighParts", fn := fun _ => fun
  | [d1, d2, d3] => { results := [.lit (.bool false)], args := [d1, d2, d3] }
  | _ => none }
def WeighPartsWrongFalsely : Prop := weighPartsRow.holds Try.pinned (OpenSpec.ofChange weighPartsWrong)

/-- 'moorsomlaw01.WeighSums': WHATEVER THE INPUT: true; the input reads as it did. -/
def weighSumsSpec : ChangeSpec := { name := "weighSums", fn := fun _ => fun
  | [d1, d2, d3] => { results := [.lit (.bool true)], args := [d1, d2, d3] }
  | _ => none }
def weighSumsRow : OpenClaim := { program := "ytdlmdaononclgaa", sum := "c89130404166ea3af36aea4b4d750f8fd7c2d8e6df0fa2fd4799da665c4c2f51", func := "moorsom/moorsomlaw01.WeighSums", spec := "weighSums", unfollowed := true, recurses := true, apart := false }
def WeighSumsSaid : Prop := weighSumsRow.holds Try.pinned (OpenSpec.ofChange weighSumsSpec)

/-- ITS FALSE NEIGHBOUR: 'it returns false'. Refute it at one input. -/
def weighSumsWrong : ChangeSpec := { name := "weighSums", fn := fun _ => fun
  | [d1, d2, d3] => { results := [.lit (.bool false)], args := [d1, d2, d3] }
  | _ => none }
def WeighSumsWrongFalsely : Prop := weighSumsRow.holds Try.pinned (OpenSpec.ofChange weighSumsWrong)

/- THE SECOND FORM. 'bulk': how many values and letters a reading holds, each counted each time it is reached (what is shared counts as often as it is met; a slice's spare places count too). A statement '..UptoSaid' is the law's where the arguments, and the package variables that the reading takes, are together of bulk at most 1048576: NARROWER than '..Said'. Prove '..Said' where nothing that the law and all that it calls make is longer than what came in: it says more and counts as full. Else prove '..UptoSaid'. A law counts once. -/
mutual
def uptoBulk {H : Type} : DataW H → Nat
  | .lit (.string bytes) => bytes.length + 1
  | .lit _ => 1
  | .nil => 1
  | .ptr d => uptoBulk d + 1
  | .slice elems spare => uptoBulkAll elems + uptoBulkAll spare + 1
  | .agg parts => uptoBulkAll parts + 1
  | .iface _ d => uptoBulk d + 1
  | .map entries => uptoBulkEntries entries + 1
  | .held _ => 1
def uptoBulkAll {H : Type} : List (DataW H) → Nat
  | [] => 0
  | d :: r => uptoBulk d + uptoBulkAll r
def uptoBulkEntries {H : Type} : List (Lit × DataW H) → Nat
  | [] => 0
  | x :: r => uptoBulkEntry x + uptoBulkEntries r
def uptoBulkEntry {H : Type} : Lit × DataW H → Nat
  | (.string bytes, d) => bytes.length + uptoBulk d + 1
  | (_, d) => uptoBulk d + 1
 end
def uptoSmall : (H : Type) → List (DataW H) → Bool := fun _ ds => decide (uptoBulkAll ds ≤ 1048576)
def OpenSpec.upto (s : _root_.Go.ChangeSpec) : _root_.Go.OpenSpec := { _root_.Go.OpenSpec.ofChange s with cond := some uptoSmall }

/-- 'moorsomlaw01.WeighScales', WHERE WHAT IT READS IS OF BULK AT MOST 1048576: true; the input reads as it did. -/
def weighScalesUptoRow : OpenClaim := { program := "ytdlmdaononclgaa", sum := "c89130404166ea3af36aea4b4d750f8fd7c2d8e6df0fa2fd4799da665c4c2f51", func := "moorsom/moorsomlaw01.WeighScales", spec := "weighScales", unfollowed := true, recurses := true, apart := false, narrowed := true }
def WeighScalesUptoSaid : Prop := weighScalesUptoRow.holds Try.pinned (OpenSpec.upto weighScalesSpec)

/-- 'moorsomlaw01.WeighVolumes', WHERE WHAT IT READS IS OF BULK AT MOST 1048576: true; the input reads as it did. -/
def weighVolumesUptoRow : OpenClaim := { program := "ytdlmdaononclgaa", sum := "c89130404166ea3af36aea4b4d750f8fd7c2d8e6df0fa2fd4799da665c4c2f51", func := "moorsom/moorsomlaw01.WeighVolumes", spec := "weighVolumes", unfollowed := true, recurses := true, apart := false, narrowed := true }
def WeighVolumesUptoSaid : Prop := weighVolumesUptoRow.holds Try.pinned (OpenSpec.upto weighVolumesSpec)

/-- 'moorsomlaw01.WeighAreas', WHERE WHAT IT READS IS OF BULK AT MOST 1048576: true; the input reads as it did. -/
def weighAreasUptoRow : OpenClaim := { program := "ytdlmdaononclgaa", sum := "c89130404166ea3af36aea4b4d750f8fd7c2d8e6df0fa2fd4799da665c4c2f51", func := "moorsom/moorsomlaw01.WeighAreas", spec := "weighAreas", unfollowed := true, recurses := true, apart := false, narrowed := true }
def WeighAreasUptoSaid : Prop := weighAreasUptoRow.holds Try.pinned (OpenSpec.upto weighAreasSpec)

/-- 'moorsomlaw01.WeighPlaces', WHERE WHAT IT READS IS OF BULK AT MOST 1048576: true; the input reads as it did. -/
def weighPlacesUptoRow : OpenClaim := { program := "ytdlmdaononclgaa", sum := "c89130404166ea3af36aea4b4d750f8fd7c2d8e6df0fa2fd4799da665c4c2f51", func := "moorsom/moorsomlaw01.WeighPlaces", spec := "weighPlaces", unfollowed := true, recurses := true, apart := false, narrowed := true }
def WeighPlacesUptoSaid : Prop := weighPlacesUptoRow.holds Try.pinned (OpenSpec.upto weighPlacesSpec)

/-- 'moorsomlaw01.WeighExact', WHERE WHAT IT READS IS OF BULK AT MOST 1048576: true; the input reads as it did. -/
def weighExactUptoRow : OpenClaim := { program := "ytdlmdaononclgaa", sum := "c89130404166ea3af36aea4b4d750f8fd7c2d8e6df0fa2fd4799da665c4c2f51", func := "moorsom/moorsomlaw01.WeighExact", spec := "weighExact", unfollowed := true, recurses := true, apart := false, narrowed := true }
def WeighExactUptoSaid : Prop := weighExactUptoRow.holds Try.pinned (OpenSpec.upto weighExactSpec)

/-- 'moorsomlaw01.WeighFracs', WHERE WHAT IT READS IS OF BULK AT MOST 1048576: true; the input reads as it did. -/
def weighFracsUptoRow : OpenClaim := { program := "ytdlmdaononclgaa", sum := "c89130404166ea3af36aea4b4d750f8fd7c2d8e6df0fa2fd4799da665c4c2f51", func := "moorsom/moorsomlaw01.WeighFracs", spec := "weighFracs", unfollowed := true, recurses := true, apart := false, narrowed := true }
def WeighFracsUptoSaid : Prop := weighFracsUptoRow.holds Try.pinned (OpenSpec.upto weighFracsSpec)

/-- 'moorsomlaw01.WeighFields', WHERE WHAT IT READS IS OF BULK AT MOST 1048576: true; the input reads as it did. -/
def weighFieldsUptoRow : OpenClaim := { program := "ytdlmdaononclgaa", sum := "c89130404166ea3af36aea4b4d750f8fd7c2d8e6df0fa2fd4799da665c4c2f51", func := "moorsom/moorsomlaw01.WeighFields", spec := "weighFields", unfollowed := true, recurses := true, apart := false, narrowed := true }
def WeighFieldsUptoSaid : Prop := weighFieldsUptoRow.holds Try.pinned (OpenSpec.upto weighFieldsSpec)

/-- 'moorsomlaw01.WeighParts', WHERE WHAT IT READS IS OF BULK AT MOST 1048576: true; the input reads as it did. -/
def weighPartsUptoRow : OpenClaim := { program := "ytdlmdaononclgaa", sum := "c89130404166ea3af36aea4b4d750f8fd7c2d8e6df0fa2fd4799da665c4c2f51", func := "moorsom/moorsomlaw01.WeighParts", spec := "weighParts", unfollowed := true, recurses := true, apart := false, narrowed := true }
def WeighPartsUptoSaid : Prop := weighPartsUptoRow.holds Try.pinned (OpenSpec.upto weighPartsSpec)

/-- 'moorsomlaw01.WeighSums', WHERE WHAT IT READS IS OF BULK AT MOST 1048576: true; the input reads as it did. -/
def weighSumsUptoRow : OpenClaim := { program := "ytdlmdaononclgaa", sum := "c89130404166ea3af36aea4b4d750f8fd7c2d8e6df0fa2fd4799da665c4c2f51", func := "moorsom/moorsomlaw01.WeighSums", spec := "weighSums", unfollowed := true, recurses := true, apart := false, narrowed := true }
def WeighSumsUptoSaid : Prop := weighSumsUptoRow.holds Try.pinned (OpenSpec.upto weighSumsSpec)

end Rows
end Go.Proofs.Ytdlmdaononclgaa
