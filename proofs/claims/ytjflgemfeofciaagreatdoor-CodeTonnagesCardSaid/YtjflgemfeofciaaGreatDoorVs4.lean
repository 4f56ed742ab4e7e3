import Derived.Test.YtjflgemfeofciaaGreatDoorQa4
/- Layer 4: versions (InForce, Amend) of both sides; the walk of CodeVersions. -/
namespace Go.Proofs.YtjflgemfeofciaaGreatDoor
open Go Go.Ev
set_option linter.unusedVariables false
set_option linter.unusedSimpArgs false
set_option maxRecDepth 10000
def F_code_InForce (p0 : Code) (p1 : Int) : Option (Int × Int) := ((F_code_of p0).bind fun q2 => ((F_code_question_on q2 p1 0).bind fun q3 => some ((max q3.index_ 0), q3.e_)))
set_option maxHeartbeats 1000000 in
theorem F_code_InForce_ok (p0 : Code) (p1 : Int) (cs0 : List V) (g : G) (h0 : CodeR g cs0 p0) (r : Int × Int) (hF : F_code_InForce p0 p1 = some r) : Fv Tryz.prog natS (.f 55 [] []) [.agg cs0, .i .i64 p1] g (.tup [.i .i64 r.1, .i .i64 r.2]) := by
  refine Fw.fv ?_
  unfold F_code_InForce at hF
  obtain ⟨vq0, rfl, hcq0⟩ := h0
  have lh0_1 := hcq0.1
  refine Fw.enter (N := 20) (al := [(1, _), (0, _)]) Tryz.func55 (by kernel_rfl) (by kernel_rfl) rfl rfl rfl rfl ?_
  intro B
  refine .seq <| .region rfl <| .box .no rfl rfl rfl rfl fun b1 => .z rfl rfl <| .z rfl rfl <| .nil <| sq_n <| .seq <| .region rfl <| .w (.a (vs := [_, _]) rfl .hd a_24 s_24 rfl rfl) ?_
  obtain ⟨q2, hq2, hF⟩ := bS hF
  refine .call .no rfl rfl rfl (F_code_of_ok p0 _ _ ⟨_, rfl, hcq0⟩ _ hq2) ?_
  rintro g2 ml2 r2 hle2 ⟨b2_0, cs2_0, rfl, rfl, ⟨v1_2_0, v3_2_0, v4_2_0, v5_2_0, v6_2_0, v7_2_0, v8_2_0, v9_2_0, v10_2_0, v11_2_0, v12_2_0, v13_2_0, rfl, h1_2_0, h3_2_0, h4_2_0, h5_2_0, h6_2_0, h7_2_0, h8_2_0, h9_2_0, h10_2_0, h11_2_0, h12_2_0, h13_2_0⟩⟩
  have lh2_0_1 := h1_2_0.1
  have lh2_0_3 := h3_2_0.1
  have lh2_0_4 := h4_2_0.1
  have lh2_0_5 := h5_2_0.1
  have lh2_0_6 := h6_2_0.1
  have lh2_0_7 := h7_2_0.1
  have lh2_0_8 := h8_2_0.1
  have lh2_0_9 := h9_2_0.1
  have lh2_0_10 := h10_2_0.1
  have lh2_0_11 := h11_2_0.1
  have lh2_0_12 := h12_2_0.1
  have lh2_0_13 := h13_2_0.1
  refine .m rfl rfl ?_
  obtain ⟨q3, hq3, hF⟩ := bS hF
  refine .callT .no rfl rfl rfl .hd (F_code_question_on_ok q2 p1 0 _ _ _ ⟨_, _, _, _, _, _, _, _, _, _, _, _, rfl, h1_2_0, h3_2_0, h4_2_0, h5_2_0, h6_2_0, h7_2_0, h8_2_0, h9_2_0, h10_2_0, h11_2_0, h12_2_0, h13_2_0⟩ _ hq3) ?_
  rintro g3 ml3 r3 hle3 ⟨cs3_0, rfl, rfl, ⟨v1_3_0, v3_3_0, v4_3_0, v5_3_0, v6_3_0, v7_3_0, v8_3_0, v9_3_0, v10_3_0, v11_3_0, v12_3_0, v13_3_0, rfl, h1_3_0, h3_3_0, h4_3_0, h5_3_0, h6_3_0, h7_3_0, h8_3_0, h9_3_0, h10_3_0, h11_3_0, h12_3_0, h13_3_0⟩⟩
  have lh3_0_1 := h1_3_0.1
  have lh3_0_3 := h3_3_0.1
  have lh3_0_4 := h4_3_0.1
  have lh3_0_5 := h5_3_0.1
  have lh3_0_6 := h6_3_0.1
  have lh3_0_7 := h7_3_0.1
  have lh3_0_8 := h8_3_0.1
  have lh3_0_9 := h9_3_0.1
  have lh3_0_10 := h10_3_0.1
  have lh3_0_11 := h11_3_0.1
  have lh3_0_12 := h12_3_0.1
  have lh3_0_13 := h13_3_0.1
  refine .z rfl rfl <| .nil <| sq_n <| .seq <| .draw (tb := [r0 0 0, r0 1 0, r0 3 0, r0 7 0, r0 15 0, r0 0 0, r0 32 0, r0 96 0, r0 224 0, r0 31 0, r1 1023 0]) rfl (by kernel_rfl) (by kernel_rfl) ?_
  refine .m rfl rfl <| .q (.nil rfl) <| .q (.fa rfl f_132_2) <| .y rfl rfl rfl (.s rfl .hd a_3 rfl) <| .q (.mx rfl rfl rfl rfl) <| .m rfl rfl <| .q (.nil rfl) <| .q (.fa rfl f_132_3) <| .y rfl rfl rfl (.s rfl .hd a_30 rfl) <| .z rfl rfl <| .z rfl rfl <| .nil <| sq_n <| .ret ?_
  obtain rfl := sI hF
  refine retQ_r (hle2.trans hle3) (.tmp rfl (.tmp rfl .nil)) rfl ?_
  rfl
def F_r04_InForce (p0 : Code) (p1 : Int) : Option (Int × Int) := (cond (!(decide ((Code.err p0) = 0))) (some (0, (Code.err p0))) ((cond (!(within p1 0 100000)) (some (0, 6)) ((cond (decide ((forceI p0 p1) < 0)) (some (0, 45)) (some ((forceI p0 p1), 0)))))))
end Go.Proofs.YtjflgemfeofciaaGreatDoor
