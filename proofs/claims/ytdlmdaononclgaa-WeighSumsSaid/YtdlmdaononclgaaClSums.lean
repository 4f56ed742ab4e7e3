/-
  WeighSums: for every input the law returns true, and each argument reads behind the call as it read before. No condition.
-/
import Derived.Test.YtdlmdaononclgaaLawSums
import Derived.Test.YtdlmdaononclgaaLawR
namespace Go.Proofs.Ytdlmdaononclgaa
open Go.ChangeShapes Go.WideShapes Go.ChangeAt Go.RowKit
set_option linter.unusedVariables false
set_option linter.unusedSimpArgs false

set_option maxRecDepth 100000 in
theorem weighSums_lifted (os : Os) (started : os.Started) (H : Type) (enc : TypeId × Value → H) :
    ReturnsInHanded {} Try.checked os 11 .any (Rows.weighSumsSpec.pre6 enc Try.prog Try.f11 Rows.weighSumsRow.domain false) (Rows.weighSumsSpec.post enc Try.prog Try.f11 false true false false) := by
  refine returnsInHanded_of_change_sized (C := Try.checked) own started (by kernel_rfl) Try.func11
    (ChangeSpec.witness6 (enc := enc) (C := Try.checked) false ⟨#[], #[.slice none 0 0, .agg #[.slice none 0 0, .slice none 0 0], .agg #[.int .i64 0, .int .i64 0, .int .i64 0, .int .i64 0]], []⟩ 8 (by kernel_rfl) (by kernel_rfl) (by kernel_rfl) (by kernel_rfl)) ?_
  intro W base args ds gs before hval0 hW _ hsz _
  have hval : ∀ (j : Nat) t v, Try.f11.params[j]? = some t → args[j]? = some v → Value.okWide Try.prog W .any base t v := hval0
  have hW' := hW
  obtain ⟨p, q, hA0, hV, rfl, _, _⟩ := hW
  have hA : DataW.TrodAll enc Try.prog W 0 (fun _ => true) true Try.f11.params.toList args.toList ds p := hA0
  rw [Try.params11] at hA hval
  obtain ⟨v0, vs0, d0, ds0, p0, q0, hargs, rfl, rfl, h0, r0⟩ := trodAll_cons hA
  obtain ⟨v1, vs1, d1, ds1, p1, q1, rfl, rfl, rfl, h1, r1⟩ := trodAll_cons r0
  obtain ⟨v2, vs2, d2, ds2, p2, q2, rfl, rfl, rfl, h2, r2⟩ := trodAll_cons r1
  obtain ⟨rfl, rfl, rfl⟩ := trodAll_nil r2
  obtain rfl : args = #[v0, v1, v2] := by cases args; simp_all
  obtain ⟨rfl, rfl⟩ := trodVars_none hV
  obtain ⟨A0, c0, xs0, rfl, hc0, hm0, rd0, bd0⟩ := open_LR Try.underlying22 Try.underlying3 cellsInt bytesInt (hval 0 22 v0 rfl rfl) h0 (reach_at hsz (j := 0) rfl rfl)
  obtain ⟨x1, y1, rfl, Lx1, Ly1⟩ := open_LR2 Try.underlying70 (by kernel_rfl) (by kernel_rfl) Try.underlying22 Try.underlying3 cellsInt bytesInt (hval 1 70 v1 rfl rfl) h1 (reach_at hsz (j := 1) rfl rfl)
  obtain ⟨Ax1, cx1, lx1, rfl, hcx1, hmx1, rdx1, bdx1⟩ := Lx1
  obtain ⟨Ay1, cy1, ly1, rfl, hcy1, hmy1, rdy1, bdy1⟩ := Ly1
  obtain ⟨a2, b2, c2, d2, rfl, ⟨wa02, wa12⟩, ⟨wb02, wb12⟩, ⟨wc02, wc12⟩, ⟨wd02, wd12⟩⟩ := open_int4 Try.underlying71 cellsInt (by kernel_rfl) Try.underlying3 (hval 2 71 v2 rfl rfl) h2
  clear hA0 hval0
  refine (weighSums_walk xs0 lx1 ly1 A0 c0 Ax1 cx1 Ay1 cy1 hc0 hm0 hcx1 hmx1 hcy1 hmy1 a2 b2 c2 d2 ⟨wa02, wa12⟩ ⟨wb02, wb12⟩ ⟨wc02, wc12⟩ ⟨wd02, wd12⟩ W rd0 rdx1 rdy1 bd0 bdx1 bdy1).mono fun e W' ⟨he, hb⟩ => ?_
  subst he
  exact ⟨_, rfl, post_law laidOut (by kernel_rfl) rfl Try.underlying4 rfl ⟨rfl, rfl, rfl⟩ hW' hb⟩

theorem weighSums_holds : Rows.WeighSumsSaid :=
  OpenClaim.holds_of_wide 11 Try.f11 rfl rfl rfl rfl rfl rfl rfl ⟨rfl, rfl, rfl, rfl, rfl⟩ rfl rfl rfl rfl rfl (by kernel_rfl) Try.func11 (by kernel_rfl)
    (of_decide_eq_true (by kernel_rfl)) (by unfold Func.isWrapper; first | (rw [if_pos (by decide +kernel)]; kernel_rfl) | (rw [if_neg (by decide +kernel)]; exact ⟨rfl, rfl⟩))
    (fun os started H enc _ => weighSums_lifted os started H enc)

#print axioms weighSums_holds

end Go.Proofs.Ytdlmdaononclgaa
