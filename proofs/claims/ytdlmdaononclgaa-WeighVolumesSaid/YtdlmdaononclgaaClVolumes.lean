/-
  WeighVolumes: for every input the law returns true, and each argument reads behind the call as it read before. No condition.
-/
import Derived.Test.YtdlmdaononclgaaLawVolumes
import Derived.Test.YtdlmdaononclgaaLawR
namespace Go.Proofs.Ytdlmdaononclgaa
open Go.ChangeShapes Go.WideShapes Go.ChangeAt Go.RowKit
set_option linter.unusedVariables false
set_option linter.unusedSimpArgs false

set_option maxRecDepth 100000 in
theorem weighVolumes_lifted (os : Os) (started : os.Started) (H : Type) (enc : TypeId × Value → H) :
    ReturnsInHanded {} Try.checked os 4 .any (Rows.weighVolumesSpec.pre6 enc Try.prog Try.f4 Rows.weighVolumesRow.domain false) (Rows.weighVolumesSpec.post enc Try.prog Try.f4 false true false false) := by
  refine returnsInHanded_of_change_sized (C := Try.checked) own started (by kernel_rfl) Try.func4
    (ChangeSpec.witness6 (enc := enc) (C := Try.checked) false ⟨#[], #[.agg #[.slice none 0 0, .slice none 0 0, .slice none 0 0], .int .i64 0], []⟩ 8 (by kernel_rfl) (by kernel_rfl) (by kernel_rfl) (by kernel_rfl)) ?_
  intro W base args ds gs before hval0 hW _ hsz _
  have hval : ∀ (j : Nat) t v, Try.f4.params[j]? = some t → args[j]? = some v → Value.okWide Try.prog W .any base t v := hval0
  have hW' := hW
  obtain ⟨p, q, hA0, hV, rfl, _, _⟩ := hW
  have hA : DataW.TrodAll enc Try.prog W 0 (fun _ => true) true Try.f4.params.toList args.toList ds p := hA0
  rw [Try.params4] at hA hval
  obtain ⟨v0, vs0, d0, ds0, p0, q0, hargs, rfl, rfl, h0, r0⟩ := trodAll_cons hA
  obtain ⟨v1, vs1, d1, ds1, p1, q1, rfl, rfl, rfl, h1, r1⟩ := trodAll_cons r0
  obtain ⟨rfl, rfl, rfl⟩ := trodAll_nil r1
  obtain rfl : args = #[v0, v1] := by cases args; simp_all
  obtain ⟨rfl, rfl⟩ := trodVars_none hV
  obtain ⟨x0, y0, z0, rfl, Lx0, Ly0, Lz0⟩ := open_LR3 Try.underlying31 (by kernel_rfl) (by kernel_rfl) Try.underlying22 Try.underlying3 cellsInt bytesInt (hval 0 31 v0 rfl rfl) h0 (reach_at hsz (j := 0) rfl rfl)
  obtain ⟨Ax0, cx0, lx0, rfl, hcx0, hmx0, rdx0, bdx0⟩ := Lx0
  obtain ⟨Ay0, cy0, ly0, rfl, hcy0, hmy0, rdy0, bdy0⟩ := Ly0
  obtain ⟨Az0, cz0, lz0, rfl, hcz0, hmz0, rdz0, bdz0⟩ := Lz0
  obtain ⟨a1, rfl, wa1, wb1⟩ := open_i64 Try.underlying3 (hval 1 3 v1 rfl rfl) h1
  clear hA0 hval0
  refine (weighVolumes_walk lx0 ly0 lz0 Ax0 cx0 Ay0 cy0 Az0 cz0 hcx0 hmx0 hcy0 hmy0 hcz0 hmz0 a1 wa1 wb1 W rdx0 rdy0 rdz0 bdx0 bdy0 bdz0).mono fun e W' ⟨he, hb⟩ => ?_
  subst he
  exact ⟨_, rfl, post_law laidOut (by kernel_rfl) rfl Try.underlying4 rfl ⟨rfl, rfl, rfl⟩ hW' hb⟩

theorem weighVolumes_holds : Rows.WeighVolumesSaid :=
  OpenClaim.holds_of_wide 4 Try.f4 rfl rfl rfl rfl rfl rfl rfl ⟨rfl, rfl, rfl, rfl, rfl⟩ rfl rfl rfl rfl rfl (by kernel_rfl) Try.func4 (by kernel_rfl)
    (of_decide_eq_true (by kernel_rfl)) (by unfold Func.isWrapper; first | (rw [if_pos (by decide +kernel)]; kernel_rfl) | (rw [if_neg (by decide +kernel)]; exact ⟨rfl, rfl⟩))
    (fun os started H enc _ => weighVolumes_lifted os started H enc)

#print axioms weighVolumes_holds

end Go.Proofs.Ytdlmdaononclgaa
