/-
  WeighFracs: for every input the law returns true, and each argument reads behind the call as it read before. No condition.
-/
import Derived.Test.YtdlmdaononclgaaLawFracs
import Derived.Test.YtdlmdaononclgaaLaw
namespace Go.Proofs.Ytdlmdaononclgaa
open Go.ChangeShapes Go.WideShapes Go.ChangeAt Go.RowKit
set_option linter.unusedVariables false
set_option linter.unusedSimpArgs false

set_option maxRecDepth 100000 in
theorem weighFracs_lifted (os : Os) (started : os.Started) (H : Type) (enc : TypeId × Value → H) :
    ReturnsInHanded {} Try.checked os 8 .any (Rows.weighFracsSpec.pre6 enc Try.prog Try.f8 Rows.weighFracsRow.domain false) (Rows.weighFracsSpec.post enc Try.prog Try.f8 false true false false) := by
  refine returnsInHanded_of_change (C := Try.checked) own started (by kernel_rfl) Try.func8
    (ChangeSpec.witness6 (enc := enc) (C := Try.checked) false ⟨#[], #[.agg #[.int .i64 0, .int .i64 0], .agg #[.int .i64 0, .int .i64 0], .agg #[.int .i64 0, .int .i64 0]], []⟩ 8 (by kernel_rfl) (by kernel_rfl) (by kernel_rfl) (by kernel_rfl)) ?_
  intro W base args ds gs before hval0 hW _ _
  have hval : ∀ (j : Nat) t v, Try.f8.params[j]? = some t → args[j]? = some v → Value.okWide Try.prog W .any base t v := hval0
  have hW' := hW
  obtain ⟨p, q, hA0, hV, rfl, _, _⟩ := hW
  have hA : DataW.TrodAll enc Try.prog W 0 (fun _ => true) true Try.f8.params.toList args.toList ds p := hA0
  rw [Try.params8] at hA hval
  obtain ⟨v0, vs0, d0, ds0, p0, q0, hargs, rfl, rfl, h0, r0⟩ := trodAll_cons hA
  obtain ⟨v1, vs1, d1, ds1, p1, q1, rfl, rfl, rfl, h1, r1⟩ := trodAll_cons r0
  obtain ⟨v2, vs2, d2, ds2, p2, q2, rfl, rfl, rfl, h2, r2⟩ := trodAll_cons r1
  obtain ⟨rfl, rfl, rfl⟩ := trodAll_nil r2
  obtain rfl : args = #[v0, v1, v2] := by cases args; simp_all
  obtain ⟨rfl, rfl⟩ := trodVars_none hV
  obtain ⟨a0, b0, rfl, ⟨wa0, wb0⟩, ⟨wc0, wd0⟩⟩ := open_pair Try.underlying40 rfl rfl (by kernel_rfl) (by kernel_rfl) Try.underlying3 (hval 0 40 v0 rfl rfl) h0
  obtain ⟨a1, b1, rfl, ⟨wa1, wb1⟩, ⟨wc1, wd1⟩⟩ := open_pair Try.underlying40 rfl rfl (by kernel_rfl) (by kernel_rfl) Try.underlying3 (hval 1 40 v1 rfl rfl) h1
  obtain ⟨a2, b2, rfl, ⟨wa02, wa12⟩, ⟨wb02, wb12⟩⟩ := open_int2 Try.underlying59 cellsInt (by kernel_rfl) Try.underlying3 (hval 2 59 v2 rfl rfl) h2
  clear hA0 hval0
  refine (weighFracs_walk a0 b0 a1 b1 a2 b2 wa0 wb0 wc0 wd0 wa1 wb1 wc1 wd1 wa02 wa12 wb02 wb12 W).mono fun e W' ⟨he, hb⟩ => ?_
  subst he
  exact ⟨_, rfl, post_law laidOut (by kernel_rfl) rfl Try.underlying4 rfl ⟨rfl, rfl, rfl⟩ hW' hb⟩

theorem weighFracs_holds : Rows.WeighFracsSaid :=
  OpenClaim.holds_of_wide 8 Try.f8 rfl rfl rfl rfl rfl rfl rfl ⟨rfl, rfl, rfl, rfl, rfl⟩ rfl rfl rfl rfl rfl (by kernel_rfl) Try.func8 (by kernel_rfl)
    (of_decide_eq_true (by kernel_rfl)) (by unfold Func.isWrapper; first | (rw [if_pos (by decide +kernel)]; kernel_rfl) | (rw [if_neg (by decide +kernel)]; exact ⟨rfl, rfl⟩))
    (fun os started H enc _ => weighFracs_lifted os started H enc)

#print axioms weighFracs_holds

end Go.Proofs.Ytdlmdaononclgaa
