import Derived.Test.YtjflgemfeofciaaGreatDoorQa4
import Derived.Test.YtjflgemfeofciaaGreatDoorWm4
import Derived.Test.YtjflgemfeofciaaGreatDoorMY8
/- Layer 4: Compile. -/
namespace Go.Proofs.YtjflgemfeofciaaGreatDoor
open Go Go.Ev
set_option linter.unusedVariables false
set_option linter.unusedSimpArgs false
set_option maxRecDepth 10000
def F_code_Compile (p0 : Code) (p1 : Int) (p2 : (List Room)) : Option (T_Plan × Int) := ((F_code_of p0).bind fun q3 => ((F_code_question_on q3 p1 0).bind fun q4 => ((F_code_question_with q4 p2).bind fun q5 => (cond (!(decide (q5.e_ = 0))) (some ((T_Plan.mk 0 (arr [(T_Share.mk 0 [] (0, 0)), (T_Share.mk 0 [] (0, 0)), (T_Share.mk 0 [] (0, 0)), (T_Share.mk 0 [] (0, 0)), (T_Share.mk 0 [] (0, 0))] (T_Share.mk 0 [] (0, 0))) []), q5.e_)) (((F_code_question_plan q5 p2).bind fun q7 => some (q7, 0)))))))
set_option maxHeartbeats 1000000 in
theorem F_code_Compile_ok (p0 : Code) (p1 : Int) (p2 : (List Room)) (v2_0 : V) (cs0 : List V) (g : G) (h0 : CodeR g cs0 p0) (h2_0 : RS RoomR 6 g v2_0 p2) (r : T_Plan × Int) (hF : F_code_Compile p0 p1 p2 = some r) : Fw Tryz.prog natS (.f 48 [] []) [.agg cs0, .i .i64 p1, v2_0] g [] fun g' ml' q => ml' = [] ∧ ∃ (ds0 : List V), q = (.tup [.agg ds0, .i .i64 r.2]) ∧ R_Plan g' ds0 r.1 := by
  refine Fw.drop ?_
  unfold F_code_Compile at hF
  obtain ⟨vq0, rfl, hcq0⟩ := h0
  have lh0_1 := hcq0.1
  have lh2_0 := h2_0.1
  refine Fw.enter (N := 28) (al := [(2, _), (1, _), (0, _)]) Tryz.func48 (by kernel_rfl) (by kernel_rfl) rfl rfl rfl rfl ?_
  intro B
  refine .seq <| .region rfl <| .box .no rfl rfl rfl rfl fun b1 => .alloc .no rfl z_85 fun b2 => .z rfl rfl <| .nil <| sq_n <| .seq <| .region rfl <| .w (.a (vs := [_, _]) rfl (.tl .hd) a_24 s_24 rfl rfl) ?_
  obtain ⟨q3, hq3, hF⟩ := bS hF
  refine .call .no rfl rfl rfl (F_code_of_ok p0 _ _ ⟨_, rfl, hcq0⟩ _ hq3) ?_
  rintro g3 ml3 r3 hle3 ⟨b3_0, cs3_0, rfl, rfl, ⟨v1_3_0, v3_3_0, v4_3_0, v5_3_0, v6_3_0, v7_3_0, v8_3_0, v9_3_0, v10_3_0, v11_3_0, v12_3_0, v13_3_0, rfl, h1_3_0, h3_3_0, h4_3_0, h5_3_0, h6_3_0, h7_3_0, h8_3_0, h9_3_0, h10_3_0, h11_3_0, h12_3_0, h13_3_0⟩⟩
  replace h2_0 := h2_0.mono RoomR.mono hle3
  have lh3_0_1 := h1_3_0.1
  have lh3_0_3 := h3_3_0.1
  have lh3_0_4 := h4_3_0.1
  have lh3_0_5 := h5_3_0.1
  have lh3_0_6 := h6_3_0.1
  have lh3_0_7 := h7_3_0.1
  have lh3_0_8 := h8_3_0.1
  have lh3_0_9 := h9_3_0.1
  have lh3_0_10 := h10_3_0.1
  have lh3_0_11 := h11_3_0.1
  have lh3_0_12 := h12_3_0.1
  have lh3_0_13 := h13_3_0.1
  refine .m rfl rfl ?_
  obtain ⟨q4, hq4, hF⟩ := bS hF
  refine .callT .no rfl rfl rfl .hd (F_code_question_on_ok q3 p1 0 _ _ _ ⟨_, _, _, _, _, _, _, _, _, _, _, _, rfl, h1_3_0, h3_3_0, h4_3_0, h5_3_0, h6_3_0, h7_3_0, h8_3_0, h9_3_0, h10_3_0, h11_3_0, h12_3_0, h13_3_0⟩ _ hq4) ?_
  rintro g4 ml4 r4 hle4 ⟨cs4_0, rfl, rfl, ⟨v1_4_0, v3_4_0, v4_4_0, v5_4_0, v6_4_0, v7_4_0, v8_4_0, v9_4_0, v10_4_0, v11_4_0, v12_4_0, v13_4_0, rfl, h1_4_0, h3_4_0, h4_4_0, h5_4_0, h6_4_0, h7_4_0, h8_4_0, h9_4_0, h10_4_0, h11_4_0, h12_4_0, h13_4_0⟩⟩
  replace h2_0 := h2_0.mono RoomR.mono hle4
  have lh4_0_1 := h1_4_0.1
  have lh4_0_3 := h3_4_0.1
  have lh4_0_4 := h4_4_0.1
  have lh4_0_5 := h5_4_0.1
  have lh4_0_6 := h6_4_0.1
  have lh4_0_7 := h7_4_0.1
  have lh4_0_8 := h8_4_0.1
  have lh4_0_9 := h9_4_0.1
  have lh4_0_10 := h10_4_0.1
  have lh4_0_11 := h11_4_0.1
  have lh4_0_12 := h12_4_0.1
  have lh4_0_13 := h13_4_0.1
  refine .m rfl rfl ?_
  obtain ⟨q5, hq5, hF⟩ := bS hF
  refine .callT .no rfl rfl rfl .hd (F_code_question_with_ok q4 p2 _ _ _ _ ⟨_, _, _, _, _, _, _, _, _, _, _, _, rfl, h1_4_0, h3_4_0, h4_4_0, h5_4_0, h6_4_0, h7_4_0, h8_4_0, h9_4_0, h10_4_0, h11_4_0, h12_4_0, h13_4_0⟩ h2_0 _ hq5) ?_
  rintro g5 ml5 r5 hle5 ⟨cs5_0, rfl, rfl, ⟨v1_5_0, v3_5_0, v4_5_0, v5_5_0, v6_5_0, v7_5_0, v8_5_0, v9_5_0, v10_5_0, v11_5_0, v12_5_0, v13_5_0, rfl, h1_5_0, h3_5_0, h4_5_0, h5_5_0, h6_5_0, h7_5_0, h8_5_0, h9_5_0, h10_5_0, h11_5_0, h12_5_0, h13_5_0⟩⟩
  replace h2_0 := h2_0.mono RoomR.mono hle5
  have lh5_0_1 := h1_5_0.1
  have lh5_0_3 := h3_5_0.1
  have lh5_0_4 := h4_5_0.1
  have lh5_0_5 := h5_5_0.1
  have lh5_0_6 := h6_5_0.1
  have lh5_0_7 := h7_5_0.1
  have lh5_0_8 := h8_5_0.1
  have lh5_0_9 := h9_5_0.1
  have lh5_0_10 := h10_5_0.1
  have lh5_0_11 := h11_5_0.1
  have lh5_0_12 := h12_5_0.1
  have lh5_0_13 := h13_5_0.1
  refine .z rfl rfl <| .nil <| sq_n <| .seq <| .seq <| .region rfl <| .m rfl rfl <| .q (.nil rfl) <| .q (.fa rfl f_132_3) <| .w (.s rfl .hd a_30 rfl) <| .b rfl rfl rfl rfl <| .nil <| sq_n <| .cond rfl (fun h6 => ?_) (fun h6 => ?_)
  ·have kh6 := dF (nT h6)
   have hF := cT h6 hF
   refine .seq <| .draw (tb := [r0 0 0, r1 0 0, r1 2 0, r1 6 0, r1 14 0, r0 1 0, r1 63 1]) rfl (by kernel_rfl) (by kernel_rfl) ?_
   refine .q (.build (qs := []) (cs := [_, _, _, _, _, _, _, _, _, _, _, _, _, _, _, _, _, _, _, _, _, _]) rfl b_85 rfl) <| .m rfl rfl <| .q (.nil rfl) <| .q (.fa rfl f_132_3) <| .y rfl rfl rfl (.s rfl .hd a_30 rfl) <| .st (cs' := [_, _, _, _, _, _, _, _, _, _, _, _, _, _, _, _, _, _, _, _, _, _]) .no rfl rfl rfl rfl rfl rfl s_85 rfl rfl (.tl .hd) rfl rfl (FrL.cN (fun _ s => s.neb (.tl .hd) .hd) FrL.n) <| .z rfl rfl <| .nil <| sq_n <| .ret <| sq_r ?_
   obtain rfl := sI hF
   refine retQ_r ((hle3.trans hle4).trans hle5) (.cell (.a (vs := [_, _, _, _, _, _, _, _, _, _, _, _, _, _, _, _, _, _, _, _, _, _]) rfl (.tl .hd) a_85 s_85 rfl rfl) (.tmp rfl .nil)) rfl ?_
   exact ⟨_, rfl, ⟨_, _, _, _, _, _, rfl, RS.nil, RS.nil, RS.nil, RS.nil, RS.nil, RS.nil⟩⟩
  have kh6 := dT (nF h6)
  have hF := cF h6 hF
  refine .skip <| sq_n <| .seq <| .region rfl <| .m rfl rfl <| .m rfl rfl ?_
  obtain ⟨q7, hq7, hF⟩ := bS hF
  refine .callT .no rfl rfl rfl .hd (F_code_question_plan_ok q5 p2 _ _ _ _ ⟨_, _, _, _, _, _, _, _, _, _, _, _, rfl, h1_5_0, h3_5_0, h4_5_0, h5_5_0, h6_5_0, h7_5_0, h8_5_0, h9_5_0, h10_5_0, h11_5_0, h12_5_0, h13_5_0⟩ h2_0 _ hq7) ?_
  rintro g7 ml7 r7 hle7 ⟨cs7_0, rfl, rfl, ⟨v2_7_0, v6_7_0, v10_7_0, v14_7_0, v18_7_0, v21_7_0, rfl, h2_7_0, h6_7_0, h10_7_0, h14_7_0, h18_7_0, h21_7_0⟩⟩
  have lh7_0_2 := h2_7_0.1
  have lh7_0_6 := h6_7_0.1
  have lh7_0_10 := h10_7_0.1
  have lh7_0_14 := h14_7_0.1
  have lh7_0_18 := h18_7_0.1
  have lh7_0_21 := h21_7_0.1
  refine .st (cs' := [_, _, _, _, _, _, _, _, _, _, _, _, _, _, _, _, _, _, _, _, _, _]) .no rfl rfl rfl rfl s_85 rfl rfl (.tl .hd) rfl (allOne_cons rfl (allOne_cons rfl (allOne_cons h2_7_0.one (allOne_cons rfl (allOne_cons rfl (allOne_cons rfl (allOne_cons h6_7_0.one (allOne_cons rfl (allOne_cons rfl (allOne_cons rfl (allOne_cons h10_7_0.one (allOne_cons rfl (allOne_cons rfl (allOne_cons rfl (allOne_cons h14_7_0.one (allOne_cons rfl (allOne_cons rfl (allOne_cons rfl (allOne_cons h18_7_0.one (allOne_cons rfl (allOne_cons rfl (allOne_cons h21_7_0.one rfl)))))))))))))))))))))) <| .z rfl rfl <| .nil <| sq_n <| .ret ?_
  obtain rfl := sI hF
  refine retQ_r (((hle3.trans hle4).trans hle5).trans hle7) (.cell (.a (vs := [_, _, _, _, _, _, _, _, _, _, _, _, _, _, _, _, _, _, _, _, _, _]) rfl (.tl .hd) a_85 s_85 rfl rfl) (.tmp rfl .nil)) rfl ?_
  exact ⟨_, rfl, ⟨_, _, _, _, _, _, rfl, h2_7_0, h6_7_0, h10_7_0, h14_7_0, h18_7_0, h21_7_0⟩⟩
end Go.Proofs.YtjflgemfeofciaaGreatDoor

/- Layer 4: the walk of CodeTonnages. -/
namespace Go.Proofs.YtjflgemfeofciaaGreatDoor
open Go Go.Ev
set_option linter.unusedVariables false
set_option linter.unusedSimpArgs false
set_option maxRecDepth 10000

def F_l04_CodeTonnages (p0 : (List T_Raw)) (p1 : T_Some) (p2 : (List Int)) : Option (Bool) := ((F_l04_world p0 p1).bind fun q2 => ((F_code_InForce q2.1 q2.2.Day).bind fun q5 => ((F_code_Judge q2.1 q2.2.Day q2.2.Formula q2.2.Rooms).bind fun q6 => ((F_code_Ends q2.1 q2.2.Day q2.2.Formula q2.2.Rooms).bind fun q8 => ((F_code_Compile q2.1 q2.2.Day q2.2.Rooms).bind fun q11 => (cond (!(decide (q5.2 = 0))) (some false) ((cond (!(decide (q6.2 = 0))) (some false) ((cond (!(decide (q8.2.2 = 0))) (some false) ((cond (!(decide (q11.2 = 0))) (some false) ((cond (decide (q5.1 < 0)) (some false) ((cond (decide ((q2.1.vs.length : Int) ≤ q5.1)) (some false) (((atI q2.1.vs q5.1).bind fun y19 => ((F_r04_Sums y19 q2.2.Rooms p2).bind fun q20 => (cond (!(decide ((tonE q2.1 q5.1 q2.2.Formula (q20 0) (q20 1) (q20 2) (q20 3) (q20 4)) = 0))) (some false) ((cond (decide ((tonR closV q2.1 q5.1 q2.2.Formula (q20 0) (q20 1) (q20 2) (q20 3) (q20 4)) < q6.1.1)) (some false) ((cond (decide (q6.1.2 < (tonR closV q2.1 q5.1 q2.2.Formula (q20 0) (q20 1) (q20 2) (q20 3) (q20 4)))) (some false) ((cond (!(decide (q8.1.Tonnage = q6.1.1))) (some false) ((cond (!(decide (q8.2.1.Tonnage = q6.1.2))) (some false) (((F_code_CheckEnds q2.1 q2.2.Day q2.2.Formula q2.2.Rooms (arr [q8.1, q8.2.1] q8.1)).bind fun q28 => (cond (!(decide (q28 = 0))) (some false) ((cond (decide ((q20 0) < ((q11.1.Shares 0).Litres.1))) (some false) ((cond (decide (((q11.1.Shares 0).Litres.2) < (q20 0))) (some false) ((cond (decide ((q8.1.Litres 0) < ((q11.1.Shares 0).Litres.1))) (some false) ((cond (decide (((q11.1.Shares 0).Litres.2) < (q8.1.Litres 0))) (some false) ((cond (decide ((q8.2.1.Litres 0) < ((q11.1.Shares 0).Litres.1))) (some false) ((cond (decide (((q11.1.Shares 0).Litres.2) < (q8.2.1.Litres 0))) (some false) ((cond (decide ((q20 1) < ((q11.1.Shares 1).Litres.1))) (some false) ((cond (decide (((q11.1.Shares 1).Litres.2) < (q20 1))) (some false) ((cond (decide ((q8.1.Litres 1) < ((q11.1.Shares 1).Litres.1))) (some false) ((cond (decide (((q11.1.Shares 1).Litres.2) < (q8.1.Litres 1))) (some false) ((cond (decide ((q8.2.1.Litres 1) < ((q11.1.Shares 1).Litres.1))) (some false) ((cond (decide (((q11.1.Shares 1).Litres.2) < (q8.2.1.Litres 1))) (some false) ((cond (decide ((q20 2) < ((q11.1.Shares 2).Litres.1))) (some false) ((cond (decide (((q11.1.Shares 2).Litres.2) < (q20 2))) (some false) ((cond (decide ((q8.1.Litres 2) < ((q11.1.Shares 2).Litres.1))) (some false) ((cond (decide (((q11.1.Shares 2).Litres.2) < (q8.1.Litres 2))) (some false) ((cond (decide ((q8.2.1.Litres 2) < ((q11.1.Shares 2).Litres.1))) (some false) ((cond (decide (((q11.1.Shares 2).Litres.2) < (q8.2.1.Litres 2))) (some false) ((cond (decide ((q20 3) < ((q11.1.Shares 3).Litres.1))) (some false) ((cond (decide (((q11.1.Shares 3).Litres.2) < (q20 3))) (some false) ((cond (decide ((q8.1.Litres 3) < ((q11.1.Shares 3).Litres.1))) (some false) ((cond (decide (((q11.1.Shares 3).Litres.2) < (q8.1.Litres 3))) (some false) ((cond (decide ((q8.2.1.Litres 3) < ((q11.1.Shares 3).Litres.1))) (some false) ((cond (decide (((q11.1.Shares 3).Litres.2) < (q8.2.1.Litres 3))) (some false) ((cond (decide ((q20 4) < ((q11.1.Shares 4).Litres.1))) (some false) ((cond (decide (((q11.1.Shares 4).Litres.2) < (q20 4))) (some false) ((cond (decide ((q8.1.Litres 4) < ((q11.1.Shares 4).Litres.1))) (some false) ((cond (decide (((q11.1.Shares 4).Litres.2) < (q8.1.Litres 4))) (some false) ((cond (decide ((q8.2.1.Litres 4) < ((q11.1.Shares 4).Litres.1))) (some false) ((cond (decide (((q11.1.Shares 4).Litres.2) < (q8.2.1.Litres 4))) (some false) ((cond (decide ((tonE q2.1 q5.1 q2.2.Formula (q8.1.Litres 0) (q8.1.Litres 1) (q8.1.Litres 2) (q8.1.Litres 3) (q8.1.Litres 4)) = 0)) ((cond (decide ((tonE q2.1 q5.1 q2.2.Formula (q8.2.1.Litres 0) (q8.2.1.Litres 1) (q8.2.1.Litres 2) (q8.2.1.Litres 3) (q8.2.1.Litres 4)) = 0)) ((cond (decide ((tonR closV q2.1 q5.1 q2.2.Formula (q8.1.Litres 0) (q8.1.Litres 1) (q8.1.Litres 2) (q8.1.Litres 3) (q8.1.Litres 4)) = q6.1.1)) ((cond (decide ((tonR closV q2.1 q5.1 q2.2.Formula (q8.2.1.Litres 0) (q8.2.1.Litres 1) (q8.2.1.Litres 2) (q8.2.1.Litres 3) (q8.2.1.Litres 4)) = q6.1.2)) ((cond (decide ((wr ((wr ((wr ((wr ((wr ((q11.1.Exempt.length : Int) + (((q11.1.Shares 0).Rooms).length : Int))) + (((q11.1.Shares 1).Rooms).length : Int))) + (((q11.1.Shares 2).Rooms).length : Int))) + (((q11.1.Shares 3).Rooms).length : Int))) + (((q11.1.Shares 4).Rooms).length : Int))) = (q2.2.Rooms.length : Int))) (some true) (some false))) (some false))) (some false))) (some false))) (some false))))))))))))))))))))))))))))))))))))))))))))))))))))))))))))))))))))))))))))))))))))))))))))))
set_option maxHeartbeats 1000000 in
theorem F_l04_CodeTonnages_ok (p0 : (List T_Raw)) (p1 : T_Some) (p2 : (List Int)) (v0_0 v2_0 : V) (cs1 : List V) (g : G) (h0_0 : RS R_Raw 3 g v0_0 p0) (h1 : R_Some g cs1 p1) (h2_0 : RS IntR 1 g v2_0 p2) (r : Bool) (hF : F_l04_CodeTonnages p0 p1 p2 = some r) : Fv Tryz.prog natS (.f 13 [] []) [v0_0, .agg cs1, v2_0] g (.b r) := by
  refine Fw.fv ?_
  unfold F_l04_CodeTonnages at hF
  have lh0_0 := h0_0.1
  obtain ⟨v2_q1, rfl, h2_q1⟩ := h1
  have lh1_2 := h2_q1.1
  have lh2_0 := h2_0.1
  refine Fw.enter (N := 276) (al := [(2, _), (1, _), (0, _)]) Tryz.func13 (by kernel_rfl) (by kernel_rfl) rfl rfl rfl rfl ?_
  intro B
  refine .seq <| .region rfl <| .box .no rfl rfl rfl rfl fun b1 => .z rfl rfl <| .nil <| sq_n <| .seq <| .region rfl <| .m rfl rfl <| .w (.a (vs := [_, _, _]) rfl .hd a_75 s_75 rfl rfl) ?_
  obtain ⟨q2, hq2, hF⟩ := bS hF
  refine .call .no rfl rfl rfl (F_l04_world_ok p0 p1 _ _ _ h0_0 ⟨_, rfl, h2_q1⟩ _ hq2) ?_
  rintro g2 ml2 r2 hle2 ⟨rfl, cs2_0, cs2_1, rfl, ⟨v2_0, rfl, hc2_0⟩, ⟨v2_2_1, rfl, h2_2_1⟩⟩
  replace h2_0 := h2_0.mono IntR.mono hle2
  have lh2_0_1 := hc2_0.1
  have lh2_1_2 := h2_2_1.1
  refine .m rfl rfl <| .q (.ext rfl rfl) <| .q (.ext rfl rfl) <| .alloc .no rfl z_24 fun b3 => .alloc .no rfl z_37 fun b4 => .st (cs' := [_, _]) .no rfl rfl rfl rfl s_24 rfl rfl (.tl .hd) rfl (allOne_cons rfl (allOne_cons hc2_0.one rfl)) <| .st (cs' := [_, _, _]) .no rfl rfl rfl rfl s_37 rfl rfl .hd rfl (allOne_cons rfl (allOne_cons rfl (allOne_cons h2_2_1.one rfl))) <| .nil <| sq_n <| .seq <| .region rfl <| .w (.a (vs := [_, _]) rfl (.tl .hd) a_24 s_24 rfl rfl) <| .q (.fa rfl f_37_0) <| .w (.s rfl .hd a_3 rfl) ?_
  obtain ⟨q5, hq5, hF⟩ := bS hF
  refine .callV .no rfl rfl rfl (F_code_InForce_ok q2.1 q2.2.Day _ _ ⟨_, rfl, hc2_0⟩ _ hq5) <| .m rfl rfl <| .q (.ext rfl rfl) <| .q (.ext rfl rfl) <| .z rfl rfl <| .z rfl rfl <| .nil <| sq_n <| .seq <| .region rfl <| .w (.a (vs := [_, _]) rfl (.tl .hd) a_24 s_24 rfl rfl) <| .q (.fa rfl f_37_0) <| .w (.s rfl .hd a_3 rfl) <| .q (.fa rfl f_37_1) <| .w (.s rfl .hd a_3 rfl) <| .q (.fa rfl f_37_2) <| .w (.s rfl .hd a_25 rfl) ?_
  obtain ⟨q6, hq6, hF⟩ := bS hF
  refine .callV .no rfl rfl rfl (F_code_Judge_ok q2.1 q2.2.Day q2.2.Formula q2.2.Rooms _ _ _ ⟨_, rfl, hc2_0⟩ h2_2_1 _ hq6) <| .m rfl rfl <| .q (.ext rfl rfl) <| .q (.ext rfl rfl) <| .alloc .no rfl z_27 fun b7 => .st (cs' := [_, _]) .no rfl rfl rfl rfl s_27 rfl rfl .hd rfl rfl <| .z rfl rfl <| .nil <| sq_n <| .seq <| .region rfl <| .w (.a (vs := [_, _]) rfl (.tl (.tl .hd)) a_24 s_24 rfl rfl) <| .q (.fa rfl f_37_0) <| .w (.s rfl (.tl .hd) a_3 rfl) <| .q (.fa rfl f_37_1) <| .w (.s rfl (.tl .hd) a_3 rfl) <| .q (.fa rfl f_37_2) <| .w (.s rfl (.tl .hd) a_25 rfl) ?_
  obtain ⟨q8, hq8, hF⟩ := bS hF
  refine .callV .no rfl rfl rfl (F_code_Ends_ok q2.1 q2.2.Day q2.2.Formula q2.2.Rooms _ _ _ ⟨_, rfl, hc2_0⟩ h2_2_1 _ hq8) <| .m rfl rfl <| .q (.ext rfl rfl) <| .q (.ext rfl rfl) <| .q (.ext rfl rfl) <| .alloc .no rfl z_40 fun b9 => .alloc .no rfl z_40 fun b10 => .st (cs' := [_, _, _, _, _, _]) .no rfl rfl rfl rfl s_40 rfl rfl (.tl .hd) rfl rfl <| .st (cs' := [_, _, _, _, _, _]) .no rfl rfl rfl rfl s_40 rfl rfl .hd rfl rfl <| .z rfl rfl <| .nil <| sq_n <| .seq <| .region rfl <| .w (.a (vs := [_, _]) rfl (.tl (.tl (.tl (.tl .hd)))) a_24 s_24 rfl rfl) <| .q (.fa rfl f_37_0) <| .w (.s rfl (.tl (.tl (.tl .hd))) a_3 rfl) <| .q (.fa rfl f_37_2) <| .w (.s rfl (.tl (.tl (.tl .hd))) a_25 rfl) ?_
  obtain ⟨q11, hq11, hF⟩ := bS hF
  refine .call .no rfl rfl rfl (F_code_Compile_ok q2.1 q2.2.Day q2.2.Rooms _ _ _ ⟨_, rfl, hc2_0⟩ h2_2_1 _ hq11) ?_
  rintro g11 ml11 r11 hle11 ⟨rfl, cs11_0, rfl, ⟨v2_11_0, v6_11_0, v10_11_0, v14_11_0, v18_11_0, v21_11_0, rfl, h2_11_0, h6_11_0, h10_11_0, h14_11_0, h18_11_0, h21_11_0⟩⟩
  replace h2_0 := h2_0.mono IntR.mono hle11
  replace hc2_0 := hc2_0.mono VersionR.mono hle11
  replace h2_2_1 := h2_2_1.mono RoomR.mono hle11
  have lh11_0_2 := h2_11_0.1
  have lh11_0_6 := h6_11_0.1
  have lh11_0_10 := h10_11_0.1
  have lh11_0_14 := h14_11_0.1
  have lh11_0_18 := h18_11_0.1
  have lh11_0_21 := h21_11_0.1
  refine .m rfl rfl <| .q (.ext rfl rfl) <| .q (.ext rfl rfl) <| .alloc .no rfl z_85 fun b12 => .st (cs' := [_, _, _, _, _, _, _, _, _, _, _, _, _, _, _, _, _, _, _, _, _, _]) .no rfl rfl rfl rfl s_85 rfl rfl .hd rfl (allOne_cons rfl (allOne_cons rfl (allOne_cons h2_11_0.one (allOne_cons rfl (allOne_cons rfl (allOne_cons rfl (allOne_cons h6_11_0.one (allOne_cons rfl (allOne_cons rfl (allOne_cons rfl (allOne_cons h10_11_0.one (allOne_cons rfl (allOne_cons rfl (allOne_cons rfl (allOne_cons h14_11_0.one (allOne_cons rfl (allOne_cons rfl (allOne_cons rfl (allOne_cons h18_11_0.one (allOne_cons rfl (allOne_cons rfl (allOne_cons h21_11_0.one rfl)))))))))))))))))))))) <| .z rfl rfl <| .nil <| sq_n <| .seq <| .seq <| .region rfl <| .m rfl rfl <| .b rfl rfl rfl rfl <| .m rfl rfl <| .split (t := 75) rfl (fun h13 => ?_) (fun h13 => ?_)
  ·have kh13 := dF (nT h13)
   have hF := cT h13 hF
   refine .k h13 <| .k h13 <| .q (.pickT rfl h13 rfl) <| .m rfl rfl <| .k rfl <| .k rfl <| .q (.pickT rfl rfl rfl) <| .m rfl rfl <| .k rfl <| .k rfl <| .q (.pickT rfl rfl rfl) <| .m rfl rfl <| .k rfl <| .k rfl <| .q (.pickT rfl rfl rfl) <| .m rfl rfl <| .k rfl <| .k rfl <| .k rfl <| .k rfl <| .k rfl <| .q (.pickT rfl rfl rfl) <| .nil <| sq_n <| .condT rfl rfl <| .seq <| .region rfl <| .z rfl rfl <| .nil <| sq_n <| .ret <| sq_r ?_
   obtain rfl := sI hF
   refine retQ_r (hle2.trans hle11) (.tmp rfl .nil) rfl ?_
   rfl
  have kh13 := dT (nF h13)
  have hF := cF h13 hF
  refine .py h13 (.move rfl) <| .py h13 (.bin rfl rfl rfl) <| .q (.pickF rfl h13 rfl) <| .m rfl rfl <| .split (t := 79) rfl (fun h14 => ?_) (fun h14 => ?_)
  ·have kh14 := dF (nT h14)
   have hF := cT h14 hF
   refine .k h14 <| .k h14 <| .q (.pickT rfl h14 rfl) <| .m rfl rfl <| .k rfl <| .k rfl <| .q (.pickT rfl rfl rfl) <| .m rfl rfl <| .k rfl <| .k rfl <| .q (.pickT rfl rfl rfl) <| .m rfl rfl <| .k rfl <| .k rfl <| .k rfl <| .k rfl <| .k rfl <| .q (.pickT rfl rfl rfl) <| .nil <| sq_n <| .condT rfl rfl <| .seq <| .region rfl <| .z rfl rfl <| .nil <| sq_n <| .ret <| sq_r ?_
   obtain rfl := sI hF
   refine retQ_r (hle2.trans hle11) (.tmp rfl .nil) rfl ?_
   rfl
  have kh14 := dT (nF h14)
  have hF := cF h14 hF
  refine .py h14 (.move rfl) <| .py h14 (.bin rfl rfl rfl) <| .q (.pickF rfl h14 rfl) <| .m rfl rfl <| .split (t := 83) rfl (fun h15 => ?_) (fun h15 => ?_)
  ·have kh15 := dF (nT h15)
   have hF := cT h15 hF
   refine .k h15 <| .k h15 <| .q (.pickT rfl h15 rfl) <| .m rfl rfl <| .k rfl <| .k rfl <| .q (.pickT rfl rfl rfl) <| .m rfl rfl <| .k rfl <| .k rfl <| .k rfl <| .k rfl <| .k rfl <| .q (.pickT rfl rfl rfl) <| .nil <| sq_n <| .condT rfl rfl <| .seq <| .region rfl <| .z rfl rfl <| .nil <| sq_n <| .ret <| sq_r ?_
   obtain rfl := sI hF
   refine retQ_r (hle2.trans hle11) (.tmp rfl .nil) rfl ?_
   rfl
  have kh15 := dT (nF h15)
  have hF := cF h15 hF
  refine .py h15 (.move rfl) <| .py h15 (.bin rfl rfl rfl) <| .q (.pickF rfl h15 rfl) <| .m rfl rfl <| .split (t := 87) rfl (fun h16 => ?_) (fun h16 => ?_)
  ·have kh16 := dF (nT h16)
   have hF := cT h16 hF
   refine .k h16 <| .k h16 <| .q (.pickT rfl h16 rfl) <| .m rfl rfl <| .k rfl <| .k rfl <| .k rfl <| .k rfl <| .k rfl <| .q (.pickT rfl rfl rfl) <| .nil <| sq_n <| .condT rfl rfl <| .seq <| .region rfl <| .z rfl rfl <| .nil <| sq_n <| .ret <| sq_r ?_
   obtain rfl := sI hF
   refine retQ_r (hle2.trans hle11) (.tmp rfl .nil) rfl ?_
   rfl
  have kh16 := dT (nF h16)
  have hF := cF h16 hF
  refine .py h16 (.move rfl) <| .py h16 (.bin rfl rfl rfl) <| .q (.pickF rfl h16 rfl) <| .m rfl rfl <| .split (t := 91) rfl (fun h17 => ?_) (fun h17 => ?_)
  ·have kh17 := dT h17
   have hF := cT h17 hF
   refine .k h17 <| .k h17 <| .k h17 <| .k h17 <| .k h17 <| .q (.pickT rfl h17 rfl) <| .nil <| sq_n <| .condT rfl rfl <| .seq <| .region rfl <| .z rfl rfl <| .nil <| sq_n <| .ret <| sq_r ?_
   obtain rfl := sI hF
   refine retQ_r (hle2.trans hle11) (.tmp rfl .nil) rfl ?_
   rfl
  have kh17 := dF h17
  have hF := cF h17 hF
  refine .py h17 (.move rfl) <| .py h17 (.fa rfl f_24_1) <| .wy h17 (.s rfl (.tl (.tl (.tl (.tl (.tl .hd))))) a_22 rfl) <| .py h17 (.lenR rfl rfl rfl e_22 hc2_0) <| .py h17 (.bin rfl rfl rfl) <| .q (.pickF rfl h17 rfl) <| .nil <| sq_n <| .cond rfl (fun h18 => ?_) (fun h18 => ?_)
  ·have kh18 := dT h18
   have hF := cT h18 hF
   refine .seq <| .region rfl <| .z rfl rfl <| .nil <| sq_n <| .ret <| sq_r ?_
   obtain rfl := sI hF
   refine retQ_r (hle2.trans hle11) (.tmp rfl .nil) rfl ?_
   rfl
  have kh18 := dF h18
  have hF := cF h18 hF
  refine .skip <| sq_n <| .seq <| .draw (tb := [r0 0 0, r0 1 0, r0 0 0, r0 7 0, r0 15 0, r0 0 0, r0 32 0, r0 0 0, r1 255 0, r0 0 0, r1 1023 1]) rfl (by kernel_rfl) (by kernel_rfl) ?_
  refine .q (.fa rfl f_24_1) <| .y rfl rfl rfl (.s rfl (.tl (.tl (.tl (.tl (.tl .hd))))) a_22 rfl) <| .m rfl rfl ?_
  obtain ⟨y19, hy19, hF⟩ := bS hF
  have hj19 := atI_lt hy19
  refine .ixl .no rfl rfl hc2_0 rfl e_22 hy19 ?_
  rintro b19 o19 _ hq19 ⟨p19, lv19, rfl, hp19, hl19⟩
  have lh19_1 := hp19.1
  have lh19_2 := (hl19 0 (by decide)).1
  have lh19_3 := (hl19 1 (by decide)).1
  have lh19_4 := (hl19 2 (by decide)).1
  have lh19_5 := (hl19 3 (by decide)).1
  have lh19_6 := (hl19 4 (by decide)).1
  have lh19_7 := (hl19 5 (by decide)).1
  have lh19_8 := (hl19 6 (by decide)).1
  have lh19_9 := (hl19 7 (by decide)).1
  have lh19_10 := (hl19 8 (by decide)).1
  have lh19_11 := (hl19 9 (by decide)).1
  refine .y rfl rfl rfl (.pa 0 (vs := [_, _, _, _, _, _, _, _, _, _, _, _]) rfl hq19 rfl a_97 s_97 rfl rfl) <| .q (.fa rfl f_37_2) <| .y rfl rfl rfl (.s rfl (.tl (.tl (.tl (.tl .hd)))) a_25 rfl) <| .m rfl rfl ?_
  obtain ⟨q20, hq20, hF⟩ := bS hF
  refine .callV .no rfl rfl rfl rfl rfl (F_r04_Sums_ok y19 q2.2.Rooms p2 _ _ _ _ ⟨_, _, rfl, hp19, hl19⟩ h2_2_1 h2_0 _ hq20) <| .f .no rfl (.alloc z_38) fun b21 => .st (cs' := [_, _, _, _, _]) .no (pinF_t rfl pinF_n) (restA_t rfl restA_n) rfl rfl rfl rfl s_38 rfl rfl .hd rfl rfl (.all (allA_c rfl (allA_c rfl (allA_c rfl rfl)))) <| .nil <| sq_n <| .seq <| .region rfl <| .w (.a (vs := [_, _]) rfl (.tl (.tl (.tl (.tl (.tl (.tl .hd)))))) a_24 s_24 rfl rfl) <| .m rfl rfl <| .q (.fa rfl f_37_1) <| .w (.s rfl (.tl (.tl (.tl (.tl (.tl .hd))))) a_3 rfl) <| .w (.a (vs := [_, _, _, _, _]) rfl .hd a_38 s_38 rfl rfl) <| .callV .no rfl rfl rfl (Tonnage_ok _ _ _ _ _ _ _ _ _ _ ⟨_, rfl, hc2_0⟩) <| .m rfl rfl <| .q (.ext rfl rfl) <| .q (.ext rfl rfl) <| .z rfl rfl <| .z rfl rfl <| .nil <| sq_n <| .seq <| .seq <| .region rfl <| .m rfl rfl <| .b rfl rfl rfl rfl <| .m rfl rfl <| .split (t := 118) rfl (fun h23 => ?_) (fun h23 => ?_)
  ·have kh23 := dF (nT h23)
   have hF := cT h23 hF
   refine .k h23 <| .k h23 <| .k h23 <| .k h23 <| .q (.pickT rfl h23 rfl) <| .m rfl rfl <| .k rfl <| .k rfl <| .k rfl <| .k rfl <| .q (.pickT rfl rfl rfl) <| .m rfl rfl <| .k rfl <| .k rfl <| .k rfl <| .k rfl <| .k rfl <| .q (.pickT rfl rfl rfl) <| .m rfl rfl <| .k rfl <| .k rfl <| .k rfl <| .k rfl <| .k rfl <| .q (.pickT rfl rfl rfl) <| .m rfl rfl <| .k rfl <| .k rfl <| .k rfl <| .k rfl ?_
   refine .k rfl <| .k rfl <| .k rfl <| .k rfl <| .k rfl <| .k rfl <| .k rfl <| .k rfl <| .q (.pickT rfl rfl rfl) <| .nil <| sq_n <| .condT rfl rfl <| .seq <| .region rfl <| .z rfl rfl <| .nil <| sq_n <| .ret <| sq_r ?_
   obtain rfl := sI hF
   refine retQ_r (hle2.trans hle11) (.tmp rfl .nil) rfl ?_
   rfl
  have kh23 := dT (nF h23)
  have hF := cF h23 hF
  refine .py h23 (.move rfl) <| .py h23 (.fa rfl f_27_0) <| .wy h23 (.s rfl (.tl (.tl (.tl (.tl .hd)))) a_3 rfl) <| .py h23 (.bin rfl rfl rfl) <| .q (.pickF rfl h23 rfl) <| .m rfl rfl <| .split (t := 124) rfl (fun h24 => ?_) (fun h24 => ?_)
  ·have kh24 := dT h24
   have hF := cT h24 hF
   refine .k h24 <| .k h24 <| .k h24 <| .k h24 <| .q (.pickT rfl h24 rfl) <| .m rfl rfl <| .k rfl <| .k rfl <| .k rfl <| .k rfl <| .k rfl <| .q (.pickT rfl rfl rfl) <| .m rfl rfl <| .k rfl <| .k rfl <| .k rfl <| .k rfl <| .k rfl <| .q (.pickT rfl rfl rfl) <| .m rfl rfl <| .k rfl <| .k rfl <| .k rfl <| .k rfl <| .k rfl <| .k rfl <| .k rfl <| .k rfl <| .k rfl <| .k rfl ?_
   refine .k rfl <| .k rfl <| .q (.pickT rfl rfl rfl) <| .nil <| sq_n <| .condT rfl rfl <| .seq <| .region rfl <| .z rfl rfl <| .nil <| sq_n <| .ret <| sq_r ?_
   obtain rfl := sI hF
   refine retQ_r (hle2.trans hle11) (.tmp rfl .nil) rfl ?_
   rfl
  have kh24 := dF h24
  have hF := cF h24 hF
  refine .py h24 (.move rfl) <| .py h24 (.fa rfl f_27_1) <| .wy h24 (.s rfl (.tl (.tl (.tl (.tl .hd)))) a_3 rfl) <| .py h24 (.bin rfl rfl rfl) <| .q (.pickF rfl h24 rfl) <| .m rfl rfl <| .split (t := 130) rfl (fun h25 => ?_) (fun h25 => ?_)
  ·have kh25 := dT h25
   have hF := cT h25 hF
   refine .k h25 <| .k h25 <| .k h25 <| .k h25 <| .k h25 <| .q (.pickT rfl h25 rfl) <| .m rfl rfl <| .k rfl <| .k rfl <| .k rfl <| .k rfl <| .k rfl <| .q (.pickT rfl rfl rfl) <| .m rfl rfl <| .k rfl <| .k rfl <| .k rfl <| .k rfl <| .k rfl <| .k rfl <| .k rfl <| .k rfl <| .k rfl <| .k rfl <| .k rfl <| .k rfl <| .q (.pickT rfl rfl rfl) <| .nil <| sq_n <| .condT rfl rfl <| .seq ?_
   refine .region rfl <| .z rfl rfl <| .nil <| sq_n <| .ret <| sq_r ?_
   obtain rfl := sI hF
   refine retQ_r (hle2.trans hle11) (.tmp rfl .nil) rfl ?_
   rfl
  have kh25 := dF h25
  have hF := cF h25 hF
  refine .py h25 (.fa rfl f_40_0) <| .wy h25 (.s rfl (.tl (.tl (.tl .hd))) a_3 rfl) <| .py h25 (.fa rfl f_27_0) <| .wy h25 (.s rfl (.tl (.tl (.tl (.tl .hd)))) a_3 rfl) <| .py h25 (.bin rfl rfl rfl) <| .q (.pickF rfl h25 rfl) <| .m rfl rfl <| .split (t := 137) rfl (fun h26 => ?_) (fun h26 => ?_)
  ·have kh26 := dF (nT h26)
   have hF := cT h26 hF
   refine .k h26 <| .k h26 <| .k h26 <| .k h26 <| .k h26 <| .q (.pickT rfl h26 rfl) <| .m rfl rfl <| .k rfl <| .k rfl <| .k rfl <| .k rfl <| .k rfl <| .k rfl <| .k rfl <| .k rfl <| .k rfl <| .k rfl <| .k rfl <| .k rfl <| .q (.pickT rfl rfl rfl) <| .nil <| sq_n <| .condT rfl rfl <| .seq <| .region rfl <| .z rfl rfl <| .nil <| sq_n <| .ret <| sq_r ?_
   obtain rfl := sI hF
   refine retQ_r (hle2.trans hle11) (.tmp rfl .nil) rfl ?_
   rfl
  have kh26 := dT (nF h26)
  have hF := cF h26 hF
  refine .py h26 (.fa rfl f_40_0) <| .wy h26 (.s rfl (.tl (.tl .hd)) a_3 rfl) <| .py h26 (.fa rfl f_27_1) <| .wy h26 (.s rfl (.tl (.tl (.tl (.tl .hd)))) a_3 rfl) <| .py h26 (.bin rfl rfl rfl) <| .q (.pickF rfl h26 rfl) <| .m rfl rfl <| .split (t := 144) rfl (fun h27 => ?_) (fun h27 => ?_)
  ·have kh27 := dF (nT h27)
   have hF := cT h27 hF
   refine .k h27 <| .k h27 <| .k h27 <| .k h27 <| .k h27 <| .k h27 <| .k h27 <| .k h27 <| .k h27 <| .k h27 <| .k h27 <| .k h27 <| .q (.pickT rfl h27 rfl) <| .nil <| sq_n <| .condT rfl rfl <| .seq <| .region rfl <| .z rfl rfl <| .nil <| sq_n <| .ret <| sq_r ?_
   obtain rfl := sI hF
   refine retQ_r (hle2.trans hle11) (.tmp rfl .nil) rfl ?_
   rfl
  have kh27 := dT (nF h27)
  have hF := cF h27 hF
  refine .wy h27 (.a (vs := [_, _]) rfl (.tl (.tl (.tl (.tl (.tl (.tl .hd)))))) a_24 s_24 rfl rfl) <| .py h27 (.fa rfl f_37_0) <| .wy h27 (.s rfl (.tl (.tl (.tl (.tl (.tl .hd))))) a_3 rfl) <| .py h27 (.fa rfl f_37_1) <| .wy h27 (.s rfl (.tl (.tl (.tl (.tl (.tl .hd))))) a_3 rfl) <| .py h27 (.fa rfl f_37_2) <| .wy h27 (.s rfl (.tl (.tl (.tl (.tl (.tl .hd))))) a_25 rfl) <| .wy h27 (.a (vs := [_, _, _, _, _, _]) rfl (.tl (.tl (.tl .hd))) a_40 s_40 rfl rfl) <| .wy h27 (.a (vs := [_, _, _, _, _, _]) rfl (.tl (.tl .hd)) a_40 s_40 rfl rfl) <| .py h27 (.build (qs := [(0, _), (1, _)]) (cs := [_, _, _, _, _, _, _, _, _, _, _, _]) rfl b_41 rfl) ?_
  obtain ⟨q28, hq28, hF⟩ := bS hF
  refine .callV (.yes rfl rfl h27) rfl rfl rfl (F_code_CheckEnds_ok q2.1 q2.2.Day q2.2.Formula q2.2.Rooms (arr [q8.1, q8.2.1] q8.1) _ _ _ ⟨_, rfl, hc2_0⟩ h2_2_1 _ hq28) <| .py h27 (.bin rfl rfl rfl) <| .q (.pickF rfl h27 rfl) <| .nil <| sq_n <| .cond rfl (fun h29 => ?_) (fun h29 => ?_)
  ·have kh29 := dF (nT h29)
   have hF := cT h29 hF
   refine .seq <| .region rfl <| .z rfl rfl <| .nil <| sq_n <| .ret <| sq_r ?_
   obtain rfl := sI hF
   refine retQ_r (hle2.trans hle11) (.tmp rfl .nil) rfl ?_
   rfl
  have kh29 := dT (nF h29)
  have hF := cF h29 hF
  refine .skip <| sq_n <| .seq <| .region rfl <| .q (.fa rfl f_85_2) <| .w (.s rfl (.tl .hd) a_66 rfl) <| .q (.lenR rfl rfl rfl e_66 h21_11_0) <| .z rfl rfl <| .nil <| sq_n <| .seq <| .seq <| .region rfl <| .z rfl rfl <| .nil <| sq_n <| .block <| .unroll <| .seq <| .seq <| .region rfl <| .m rfl rfl <| .b rfl rfl rfl rfl <| .nil <| sq_n <| .condT rfl (by decide) <| .skip <| sq_n <| .seq <| .block <| .seq <| .region rfl <| .m rfl rfl <| .q (.fa rfl f_85_1) <| .q (.ixa (j := 0) rfl rfl ae_83 (by decide)) ?_
  refine .q (.fa rfl f_82_2) <| .w (.a (vs := [_, _]) rfl (.tl .hd) a_27 s_27 rfl rfl) <| .alloc .no rfl z_27 fun b30 => .st (cs' := [_, _]) .no rfl rfl rfl rfl s_27 rfl rfl .hd rfl rfl <| .nil <| sq_n <| .seq <| .region rfl <| .m rfl rfl <| .m rfl rfl <| .q (.fa rfl f_85_1) <| .q (.ixa (j := 0) rfl rfl ae_83 (by decide)) <| .q (.fa rfl f_82_1) <| .w (.s rfl (.tl (.tl .hd)) a_66 rfl) <| .q (.lenR rfl rfl rfl e_66 h2_11_0) <| .b rfl rfl rfl rfl <| .z rfl rfl <| .nil <| sq_n <| .seq <| .draw (tb := [r0 0 0, r0 1 0, r0 3 0, r0 0 0, r0 8 0, r1 31 0, r1 63 0, r0 127 0, r0 255 0, r0 511 0, r0 127 0, r0 1151 0, r1 4095 0, r1 8191 0, r1 16383 0, r0 32767 0, r0 32767 0, r0 131071 0, r0 262143 0, r0 32767 0, r0 557055 0, r1 2097151 0, r1 4194303 0, r1 8388607 0, r0 16777215 0, r0 16777215 0, r0 67108863 0, r0 134217727 0, r0 16777215 0, r0 285212671 0, r1 1073741823 0, r1 2147483647 0, r1 4294967295 0, r0 8589934591 0, r0 8589934591 0, r0 34359738367 0, r0 68719476735 0, r0 8589934591 0, r0 146028888063 0, r1 549755813887 0, r1 1099511627775 0, r1 2199023255551 0, r0 4398046511103 0, r0 4398046511103 0, r0 17592186044415 0, r0 35184372088831 0, r0 4398046511103 0, r0 74766790688767 0, r1 281474976710655 0, r1 562949953421311 0]) rfl (by kernel_rfl) (by kernel_rfl) ?_
  refine .m rfl rfl <| .q (.ixa (j := 0) rfl rfl ae_38 (by decide)) <| .y rfl rfl rfl (.s rfl (.tl .hd) a_3 rfl) <| .q (.fa rfl f_27_0) <| .y rfl rfl rfl (.s rfl .hd a_3 rfl) <| .b rfl rfl rfl rfl <| .m rfl rfl <| .split (t := 184) rfl (fun h31 => ?_) (fun h31 => ?_)
  ·have kh31 := dT h31
   have hF := cT h31 hF
   refine .k h31 <| .k h31 <| .k h31 <| .k h31 <| .k h31 <| .k h31 <| .q (.pickT rfl h31 rfl) <| .m rfl rfl <| .k rfl <| .k rfl <| .k rfl <| .k rfl <| .k rfl <| .k rfl <| .k rfl <| .q (.pickT rfl rfl rfl) <| .m rfl rfl <| .k rfl <| .k rfl <| .k rfl <| .k rfl <| .k rfl <| .k rfl <| .k rfl <| .q (.pickT rfl rfl rfl) <| .m rfl rfl <| .k rfl <| .k rfl <| .k rfl <| .k rfl ?_
   refine .k rfl <| .k rfl <| .k rfl <| .q (.pickT rfl rfl rfl) <| .m rfl rfl <| .k rfl <| .k rfl <| .k rfl <| .k rfl <| .k rfl <| .k rfl <| .k rfl <| .q (.pickT rfl rfl rfl) <| .nil <| sq_n <| .condT rfl rfl <| .seq <| .region rfl <| .z rfl rfl <| .nil <| sq_n <| .ret <| bq_r <| sq_r <| sq_r <| bq_r <| sq_r ?_
   obtain rfl := sI hF
   refine retQ_r (hle2.trans hle11) (.tmp rfl .nil) rfl ?_
   rfl
  have kh31 := dF h31
  have hF := cF h31 hF
  refine .py h31 (.move rfl) <| .py h31 (.ixa (j := 0) rfl rfl ae_38 (by decide)) <| .ld (k := 0) (.yes rfl rfl h31) rfl rfl rfl trivial (.s rfl (.tl .hd) a_3 rfl) <| .py h31 (.fa rfl f_27_1) <| .ld (k := 0) (.yes rfl rfl h31) rfl rfl rfl trivial (.s rfl .hd a_3 rfl) <| .py h31 (.bin rfl rfl rfl) <| .q (.pickF rfl h31 rfl) <| .m rfl rfl <| .split (t := 192) rfl (fun h32 => ?_) (fun h32 => ?_)
  ·have kh32 := dT h32
   have hF := cT h32 hF
   refine .k h32 <| .k h32 <| .k h32 <| .k h32 <| .k h32 <| .k h32 <| .k h32 <| .q (.pickT rfl h32 rfl) <| .m rfl rfl <| .k rfl <| .k rfl <| .k rfl <| .k rfl <| .k rfl <| .k rfl <| .k rfl <| .q (.pickT rfl rfl rfl) <| .m rfl rfl <| .k rfl <| .k rfl <| .k rfl <| .k rfl <| .k rfl <| .k rfl <| .k rfl <| .q (.pickT rfl rfl rfl) <| .m rfl rfl <| .k rfl <| .k rfl <| .k rfl ?_
   refine .k rfl <| .k rfl <| .k rfl <| .k rfl <| .q (.pickT rfl rfl rfl) <| .nil <| sq_n <| .condT rfl rfl <| .seq <| .region rfl <| .z rfl rfl <| .nil <| sq_n <| .ret <| bq_r <| sq_r <| sq_r <| bq_r <| sq_r ?_
   obtain rfl := sI hF
   refine retQ_r (hle2.trans hle11) (.tmp rfl .nil) rfl ?_
   rfl
  have kh32 := dF h32
  have hF := cF h32 hF
  refine .py h32 (.move rfl) <| .py h32 (.fa rfl f_40_1) <| .py h32 (.ixa (j := 0) rfl rfl ae_38 (by decide)) <| .ld (k := 0) (.yes rfl rfl h32) rfl rfl rfl trivial (.s rfl (.tl (.tl (.tl (.tl .hd)))) a_3 rfl) <| .py h32 (.fa rfl f_27_0) <| .ld (k := 0) (.yes rfl rfl h32) rfl rfl rfl trivial (.s rfl .hd a_3 rfl) <| .py h32 (.bin rfl rfl rfl) <| .q (.pickF rfl h32 rfl) <| .m rfl rfl <| .split (t := 201) rfl (fun h33 => ?_) (fun h33 => ?_)
  ·have kh33 := dT h33
   have hF := cT h33 hF
   refine .k h33 <| .k h33 <| .k h33 <| .k h33 <| .k h33 <| .k h33 <| .k h33 <| .q (.pickT rfl h33 rfl) <| .m rfl rfl <| .k rfl <| .k rfl <| .k rfl <| .k rfl <| .k rfl <| .k rfl <| .k rfl <| .q (.pickT rfl rfl rfl) <| .m rfl rfl <| .k rfl <| .k rfl <| .k rfl <| .k rfl <| .k rfl <| .k rfl <| .k rfl <| .q (.pickT rfl rfl rfl) <| .nil <| sq_n <| .condT rfl rfl <| .seq <| .region rfl ?_
   refine .z rfl rfl <| .nil <| sq_n <| .ret <| bq_r <| sq_r <| sq_r <| bq_r <| sq_r ?_
   obtain rfl := sI hF
   refine retQ_r (hle2.trans hle11) (.tmp rfl .nil) rfl ?_
   rfl
  have kh33 := dF h33
  have hF := cF h33 hF
  refine .py h33 (.move rfl) <| .py h33 (.fa rfl f_40_1) <| .py h33 (.ixa (j := 0) rfl rfl ae_38 (by decide)) <| .ld (k := 0) (.yes rfl rfl h33) rfl rfl rfl trivial (.s rfl (.tl (.tl (.tl (.tl .hd)))) a_3 rfl) <| .py h33 (.fa rfl f_27_1) <| .ld (k := 0) (.yes rfl rfl h33) rfl rfl rfl trivial (.s rfl .hd a_3 rfl) <| .py h33 (.bin rfl rfl rfl) <| .q (.pickF rfl h33 rfl) <| .m rfl rfl <| .split (t := 210) rfl (fun h34 => ?_) (fun h34 => ?_)
  ·have kh34 := dT h34
   have hF := cT h34 hF
   refine .k h34 <| .k h34 <| .k h34 <| .k h34 <| .k h34 <| .k h34 <| .k h34 <| .q (.pickT rfl h34 rfl) <| .m rfl rfl <| .k rfl <| .k rfl <| .k rfl <| .k rfl <| .k rfl <| .k rfl <| .k rfl <| .q (.pickT rfl rfl rfl) <| .nil <| sq_n <| .condT rfl rfl <| .seq <| .region rfl <| .z rfl rfl <| .nil <| sq_n <| .ret <| bq_r <| sq_r <| sq_r <| bq_r <| sq_r ?_
   obtain rfl := sI hF
   refine retQ_r (hle2.trans hle11) (.tmp rfl .nil) rfl ?_
   rfl
  have kh34 := dF h34
  have hF := cF h34 hF
  refine .py h34 (.move rfl) <| .py h34 (.fa rfl f_40_1) <| .py h34 (.ixa (j := 0) rfl rfl ae_38 (by decide)) <| .ld (k := 0) (.yes rfl rfl h34) rfl rfl rfl trivial (.s rfl (.tl (.tl (.tl .hd))) a_3 rfl) <| .py h34 (.fa rfl f_27_0) <| .ld (k := 0) (.yes rfl rfl h34) rfl rfl rfl trivial (.s rfl .hd a_3 rfl) <| .py h34 (.bin rfl rfl rfl) <| .q (.pickF rfl h34 rfl) <| .m rfl rfl <| .split (t := 219) rfl (fun h35 => ?_) (fun h35 => ?_)
  ·have kh35 := dT h35
   have hF := cT h35 hF
   refine .k h35 <| .k h35 <| .k h35 <| .k h35 <| .k h35 <| .k h35 <| .k h35 <| .q (.pickT rfl h35 rfl) <| .nil <| sq_n <| .condT rfl rfl <| .seq <| .region rfl <| .z rfl rfl <| .nil <| sq_n <| .ret <| bq_r <| sq_r <| sq_r <| bq_r <| sq_r ?_
   obtain rfl := sI hF
   refine retQ_r (hle2.trans hle11) (.tmp rfl .nil) rfl ?_
   rfl
  have kh35 := dF h35
  have hF := cF h35 hF
  refine .py h35 (.move rfl) <| .py h35 (.fa rfl f_40_1) <| .py h35 (.ixa (j := 0) rfl rfl ae_38 (by decide)) <| .ld (k := 0) (.yes rfl rfl h35) rfl rfl rfl trivial (.s rfl (.tl (.tl (.tl .hd))) a_3 rfl) <| .py h35 (.fa rfl f_27_1) <| .ld (k := 0) (.yes rfl rfl h35) rfl rfl rfl trivial (.s rfl .hd a_3 rfl) <| .py h35 (.bin rfl rfl rfl) <| .q (.pickF rfl h35 rfl) <| .nil <| sq_n <| .cond rfl (fun h36 => ?_) (fun h36 => ?_)
  ·have kh36 := dT h36
   have hF := cT h36 hF
   refine .seq <| .region rfl <| .z rfl rfl <| .nil <| sq_n <| .ret <| bq_r <| sq_r <| sq_r <| bq_r <| sq_r ?_
   obtain rfl := sI hF
   refine retQ_r (hle2.trans hle11) (.tmp rfl .nil) rfl ?_
   rfl
  have kh36 := dF h36
  have hF := cF h36 hF
  refine .skip <| bq_n <| sq_n <| .region rfl <| .m rfl rfl <| .q (.addL (c := 1) rfl rfl rfl (by decide)) <| .z rfl rfl <| .nil <| sq_n <| .unroll <| .seq <| .seq <| .region rfl <| .m rfl rfl <| .b rfl rfl rfl rfl <| .nil <| sq_n <| .condT rfl (by decide) <| .skip <| sq_n <| .seq <| .block <| .seq <| .region rfl <| .m rfl rfl <| .q (.fa rfl f_85_1) <| .q (.ixa (j := 1) rfl rfl ae_83 (by decide)) <| .q (.fa rfl f_82_2) <| .w (.a (vs := [_, _]) rfl (.tl (.tl .hd)) a_27 s_27 rfl rfl) <| .alloc .no rfl z_27 fun b37 => .st (cs' := [_, _]) .no rfl rfl rfl rfl s_27 rfl rfl .hd rfl rfl <| .nil <| sq_n <| .seq <| .region rfl <| .m rfl rfl ?_
  refine .m rfl rfl <| .q (.fa rfl f_85_1) <| .q (.ixa (j := 1) rfl rfl ae_83 (by decide)) <| .q (.fa rfl f_82_1) <| .w (.s rfl (.tl (.tl (.tl .hd))) a_66 rfl) <| .q (.lenR rfl rfl rfl e_66 h6_11_0) <| .b rfl rfl rfl rfl <| .z rfl rfl <| .nil <| sq_n <| .seq <| .draw (tb := [r0 0 0, r0 1 0, r0 3 0, r0 0 0, r0 8 0, r1 31 0, r1 63 0, r0 127 0, r0 255 0, r0 511 0, r0 127 0, r0 1151 0, r1 4095 0, r1 8191 0, r1 16383 0, r0 32767 0, r0 32767 0, r0 131071 0, r0 262143 0, r0 32767 0, r0 557055 0, r1 2097151 0, r1 4194303 0, r1 8388607 0, r0 16777215 0, r0 16777215 0, r0 67108863 0, r0 134217727 0, r0 16777215 0, r0 285212671 0, r1 1073741823 0, r1 2147483647 0, r1 4294967295 0, r0 8589934591 0, r0 8589934591 0, r0 34359738367 0, r0 68719476735 0, r0 8589934591 0, r0 146028888063 0, r1 549755813887 0, r1 1099511627775 0, r1 2199023255551 0, r0 4398046511103 0, r0 4398046511103 0, r0 17592186044415 0, r0 35184372088831 0, r0 4398046511103 0, r0 74766790688767 0, r1 281474976710655 0, r1 562949953421311 0]) rfl (by kernel_rfl) (by kernel_rfl) ?_
  refine .m rfl rfl <| .q (.ixa (j := 1) rfl rfl ae_38 (by decide)) <| .y rfl rfl rfl (.s rfl (.tl (.tl .hd)) a_3 rfl) <| .q (.fa rfl f_27_0) <| .y rfl rfl rfl (.s rfl .hd a_3 rfl) <| .b rfl rfl rfl rfl <| .m rfl rfl <| .split (t := 184) rfl (fun h38 => ?_) (fun h38 => ?_)
  ·have kh38 := dT h38
   have hF := cT h38 hF
   refine .k h38 <| .k h38 <| .k h38 <| .k h38 <| .k h38 <| .k h38 <| .q (.pickT rfl h38 rfl) <| .m rfl rfl <| .k rfl <| .k rfl <| .k rfl <| .k rfl <| .k rfl <| .k rfl <| .k rfl <| .q (.pickT rfl rfl rfl) <| .m rfl rfl <| .k rfl <| .k rfl <| .k rfl <| .k rfl <| .k rfl <| .k rfl <| .k rfl <| .q (.pickT rfl rfl rfl) <| .m rfl rfl <| .k rfl <| .k rfl <| .k rfl <| .k rfl ?_
   refine .k rfl <| .k rfl <| .k rfl <| .q (.pickT rfl rfl rfl) <| .m rfl rfl <| .k rfl <| .k rfl <| .k rfl <| .k rfl <| .k rfl <| .k rfl <| .k rfl <| .q (.pickT rfl rfl rfl) <| .nil <| sq_n <| .condT rfl rfl <| .seq <| .region rfl <| .z rfl rfl <| .nil <| sq_n <| .ret <| bq_r <| sq_r <| sq_r <| bq_r <| sq_r ?_
   obtain rfl := sI hF
   refine retQ_r (hle2.trans hle11) (.tmp rfl .nil) rfl ?_
   rfl
  have kh38 := dF h38
  have hF := cF h38 hF
  refine .py h38 (.move rfl) <| .py h38 (.ixa (j := 1) rfl rfl ae_38 (by decide)) <| .ld (k := 0) (.yes rfl rfl h38) rfl rfl rfl trivial (.s rfl (.tl (.tl .hd)) a_3 rfl) <| .py h38 (.fa rfl f_27_1) <| .ld (k := 0) (.yes rfl rfl h38) rfl rfl rfl trivial (.s rfl .hd a_3 rfl) <| .py h38 (.bin rfl rfl rfl) <| .q (.pickF rfl h38 rfl) <| .m rfl rfl <| .split (t := 192) rfl (fun h39 => ?_) (fun h39 => ?_)
  ·have kh39 := dT h39
   have hF := cT h39 hF
   refine .k h39 <| .k h39 <| .k h39 <| .k h39 <| .k h39 <| .k h39 <| .k h39 <| .q (.pickT rfl h39 rfl) <| .m rfl rfl <| .k rfl <| .k rfl <| .k rfl <| .k rfl <| .k rfl <| .k rfl <| .k rfl <| .q (.pickT rfl rfl rfl) <| .m rfl rfl <| .k rfl <| .k rfl <| .k rfl <| .k rfl <| .k rfl <| .k rfl <| .k rfl <| .q (.pickT rfl rfl rfl) <| .m rfl rfl <| .k rfl <| .k rfl <| .k rfl ?_
   refine .k rfl <| .k rfl <| .k rfl <| .k rfl <| .q (.pickT rfl rfl rfl) <| .nil <| sq_n <| .condT rfl rfl <| .seq <| .region rfl <| .z rfl rfl <| .nil <| sq_n <| .ret <| bq_r <| sq_r <| sq_r <| bq_r <| sq_r ?_
   obtain rfl := sI hF
   refine retQ_r (hle2.trans hle11) (.tmp rfl .nil) rfl ?_
   rfl
  have kh39 := dF h39
  have hF := cF h39 hF
  refine .py h39 (.move rfl) <| .py h39 (.fa rfl f_40_1) <| .py h39 (.ixa (j := 1) rfl rfl ae_38 (by decide)) <| .ld (k := 0) (.yes rfl rfl h39) rfl rfl rfl trivial (.s rfl (.tl (.tl (.tl (.tl (.tl .hd))))) a_3 rfl) <| .py h39 (.fa rfl f_27_0) <| .ld (k := 0) (.yes rfl rfl h39) rfl rfl rfl trivial (.s rfl .hd a_3 rfl) <| .py h39 (.bin rfl rfl rfl) <| .q (.pickF rfl h39 rfl) <| .m rfl rfl <| .split (t := 201) rfl (fun h40 => ?_) (fun h40 => ?_)
  ·have kh40 := dT h40
   have hF := cT h40 hF
   refine .k h40 <| .k h40 <| .k h40 <| .k h40 <| .k h40 <| .k h40 <| .k h40 <| .q (.pickT rfl h40 rfl) <| .m rfl rfl <| .k rfl <| .k rfl <| .k rfl <| .k rfl <| .k rfl <| .k rfl <| .k rfl <| .q (.pickT rfl rfl rfl) <| .m rfl rfl <| .k rfl <| .k rfl <| .k rfl <| .k rfl <| .k rfl <| .k rfl <| .k rfl <| .q (.pickT rfl rfl rfl) <| .nil <| sq_n <| .condT rfl rfl <| .seq <| .region rfl ?_
   refine .z rfl rfl <| .nil <| sq_n <| .ret <| bq_r <| sq_r <| sq_r <| bq_r <| sq_r ?_
   obtain rfl := sI hF
   refine retQ_r (hle2.trans hle11) (.tmp rfl .nil) rfl ?_
   rfl
  have kh40 := dF h40
  have hF := cF h40 hF
  refine .py h40 (.move rfl) <| .py h40 (.fa rfl f_40_1) <| .py h40 (.ixa (j := 1) rfl rfl ae_38 (by decide)) <| .ld (k := 0) (.yes rfl rfl h40) rfl rfl rfl trivial (.s rfl (.tl (.tl (.tl (.tl (.tl .hd))))) a_3 rfl) <| .py h40 (.fa rfl f_27_1) <| .ld (k := 0) (.yes rfl rfl h40) rfl rfl rfl trivial (.s rfl .hd a_3 rfl) <| .py h40 (.bin rfl rfl rfl) <| .q (.pickF rfl h40 rfl) <| .m rfl rfl <| .split (t := 210) rfl (fun h41 => ?_) (fun h41 => ?_)
  ·have kh41 := dT h41
   have hF := cT h41 hF
   refine .k h41 <| .k h41 <| .k h41 <| .k h41 <| .k h41 <| .k h41 <| .k h41 <| .q (.pickT rfl h41 rfl) <| .m rfl rfl <| .k rfl <| .k rfl <| .k rfl <| .k rfl <| .k rfl <| .k rfl <| .k rfl <| .q (.pickT rfl rfl rfl) <| .nil <| sq_n <| .condT rfl rfl <| .seq <| .region rfl <| .z rfl rfl <| .nil <| sq_n <| .ret <| bq_r <| sq_r <| sq_r <| bq_r <| sq_r ?_
   obtain rfl := sI hF
   refine retQ_r (hle2.trans hle11) (.tmp rfl .nil) rfl ?_
   rfl
  have kh41 := dF h41
  have hF := cF h41 hF
  refine .py h41 (.move rfl) <| .py h41 (.fa rfl f_40_1) <| .py h41 (.ixa (j := 1) rfl rfl ae_38 (by decide)) <| .ld (k := 0) (.yes rfl rfl h41) rfl rfl rfl trivial (.s rfl (.tl (.tl (.tl (.tl .hd)))) a_3 rfl) <| .py h41 (.fa rfl f_27_0) <| .ld (k := 0) (.yes rfl rfl h41) rfl rfl rfl trivial (.s rfl .hd a_3 rfl) <| .py h41 (.bin rfl rfl rfl) <| .q (.pickF rfl h41 rfl) <| .m rfl rfl <| .split (t := 219) rfl (fun h42 => ?_) (fun h42 => ?_)
  ·have kh42 := dT h42
   have hF := cT h42 hF
   refine .k h42 <| .k h42 <| .k h42 <| .k h42 <| .k h42 <| .k h42 <| .k h42 <| .q (.pickT rfl h42 rfl) <| .nil <| sq_n <| .condT rfl rfl <| .seq <| .region rfl <| .z rfl rfl <| .nil <| sq_n <| .ret <| bq_r <| sq_r <| sq_r <| bq_r <| sq_r ?_
   obtain rfl := sI hF
   refine retQ_r (hle2.trans hle11) (.tmp rfl .nil) rfl ?_
   rfl
  have kh42 := dF h42
  have hF := cF h42 hF
  refine .py h42 (.move rfl) <| .py h42 (.fa rfl f_40_1) <| .py h42 (.ixa (j := 1) rfl rfl ae_38 (by decide)) <| .ld (k := 0) (.yes rfl rfl h42) rfl rfl rfl trivial (.s rfl (.tl (.tl (.tl (.tl .hd)))) a_3 rfl) <| .py h42 (.fa rfl f_27_1) <| .ld (k := 0) (.yes rfl rfl h42) rfl rfl rfl trivial (.s rfl .hd a_3 rfl) <| .py h42 (.bin rfl rfl rfl) <| .q (.pickF rfl h42 rfl) <| .nil <| sq_n <| .cond rfl (fun h43 => ?_) (fun h43 => ?_)
  ·have kh43 := dT h43
   have hF := cT h43 hF
   refine .seq <| .region rfl <| .z rfl rfl <| .nil <| sq_n <| .ret <| bq_r <| sq_r <| sq_r <| bq_r <| sq_r ?_
   obtain rfl := sI hF
   refine retQ_r (hle2.trans hle11) (.tmp rfl .nil) rfl ?_
   rfl
  have kh43 := dF h43
  have hF := cF h43 hF
  refine .skip <| bq_n <| sq_n <| .region rfl <| .m rfl rfl <| .q (.addL (c := 2) rfl rfl rfl (by decide)) <| .z rfl rfl <| .nil <| sq_n <| .unroll <| .seq <| .seq <| .region rfl <| .m rfl rfl <| .b rfl rfl rfl rfl <| .nil <| sq_n <| .condT rfl (by decide) <| .skip <| sq_n <| .seq <| .block <| .seq <| .region rfl <| .m rfl rfl <| .q (.fa rfl f_85_1) <| .q (.ixa (j := 2) rfl rfl ae_83 (by decide)) <| .q (.fa rfl f_82_2) <| .w (.a (vs := [_, _]) rfl (.tl (.tl (.tl .hd))) a_27 s_27 rfl rfl) <| .alloc .no rfl z_27 fun b44 => .st (cs' := [_, _]) .no rfl rfl rfl rfl s_27 rfl rfl .hd rfl rfl <| .nil <| sq_n <| .seq <| .region rfl <| .m rfl rfl ?_
  refine .m rfl rfl <| .q (.fa rfl f_85_1) <| .q (.ixa (j := 2) rfl rfl ae_83 (by decide)) <| .q (.fa rfl f_82_1) <| .w (.s rfl (.tl (.tl (.tl (.tl .hd)))) a_66 rfl) <| .q (.lenR rfl rfl rfl e_66 h10_11_0) <| .b rfl rfl rfl rfl <| .z rfl rfl <| .nil <| sq_n <| .seq <| .draw (tb := [r0 0 0, r0 1 0, r0 3 0, r0 0 0, r0 8 0, r1 31 0, r1 63 0, r0 127 0, r0 255 0, r0 511 0, r0 127 0, r0 1151 0, r1 4095 0, r1 8191 0, r1 16383 0, r0 32767 0, r0 32767 0, r0 131071 0, r0 262143 0, r0 32767 0, r0 557055 0, r1 2097151 0, r1 4194303 0, r1 8388607 0, r0 16777215 0, r0 16777215 0, r0 67108863 0, r0 134217727 0, r0 16777215 0, r0 285212671 0, r1 1073741823 0, r1 2147483647 0, r1 4294967295 0, r0 8589934591 0, r0 8589934591 0, r0 34359738367 0, r0 68719476735 0, r0 8589934591 0, r0 146028888063 0, r1 549755813887 0, r1 1099511627775 0, r1 2199023255551 0, r0 4398046511103 0, r0 4398046511103 0, r0 17592186044415 0, r0 35184372088831 0, r0 4398046511103 0, r0 74766790688767 0, r1 281474976710655 0, r1 562949953421311 0]) rfl (by kernel_rfl) (by kernel_rfl) ?_
  refine .m rfl rfl <| .q (.ixa (j := 2) rfl rfl ae_38 (by decide)) <| .y rfl rfl rfl (.s rfl (.tl (.tl (.tl .hd))) a_3 rfl) <| .q (.fa rfl f_27_0) <| .y rfl rfl rfl (.s rfl .hd a_3 rfl) <| .b rfl rfl rfl rfl <| .m rfl rfl <| .split (t := 184) rfl (fun h45 => ?_) (fun h45 => ?_)
  ·have kh45 := dT h45
   have hF := cT h45 hF
   refine .k h45 <| .k h45 <| .k h45 <| .k h45 <| .k h45 <| .k h45 <| .q (.pickT rfl h45 rfl) <| .m rfl rfl <| .k rfl <| .k rfl <| .k rfl <| .k rfl <| .k rfl <| .k rfl <| .k rfl <| .q (.pickT rfl rfl rfl) <| .m rfl rfl <| .k rfl <| .k rfl <| .k rfl <| .k rfl <| .k rfl <| .k rfl <| .k rfl <| .q (.pickT rfl rfl rfl) <| .m rfl rfl <| .k rfl <| .k rfl <| .k rfl <| .k rfl ?_
   refine .k rfl <| .k rfl <| .k rfl <| .q (.pickT rfl rfl rfl) <| .m rfl rfl <| .k rfl <| .k rfl <| .k rfl <| .k rfl <| .k rfl <| .k rfl <| .k rfl <| .q (.pickT rfl rfl rfl) <| .nil <| sq_n <| .condT rfl rfl <| .seq <| .region rfl <| .z rfl rfl <| .nil <| sq_n <| .ret <| bq_r <| sq_r <| sq_r <| bq_r <| sq_r ?_
   obtain rfl := sI hF
   refine retQ_r (hle2.trans hle11) (.tmp rfl .nil) rfl ?_
   rfl
  have kh45 := dF h45
  have hF := cF h45 hF
  refine .py h45 (.move rfl) <| .py h45 (.ixa (j := 2) rfl rfl ae_38 (by decide)) <| .ld (k := 0) (.yes rfl rfl h45) rfl rfl rfl trivial (.s rfl (.tl (.tl (.tl .hd))) a_3 rfl) <| .py h45 (.fa rfl f_27_1) <| .ld (k := 0) (.yes rfl rfl h45) rfl rfl rfl trivial (.s rfl .hd a_3 rfl) <| .py h45 (.bin rfl rfl rfl) <| .q (.pickF rfl h45 rfl) <| .m rfl rfl <| .split (t := 192) rfl (fun h46 => ?_) (fun h46 => ?_)
  ·have kh46 := dT h46
   have hF := cT h46 hF
   refine .k h46 <| .k h46 <| .k h46 <| .k h46 <| .k h46 <| .k h46 <| .k h46 <| .q (.pickT rfl h46 rfl) <| .m rfl rfl <| .k rfl <| .k rfl <| .k rfl <| .k rfl <| .k rfl <| .k rfl <| .k rfl <| .q (.pickT rfl rfl rfl) <| .m rfl rfl <| .k rfl <| .k rfl <| .k rfl <| .k rfl <| .k rfl <| .k rfl <| .k rfl <| .q (.pickT rfl rfl rfl) <| .m rfl rfl <| .k rfl <| .k rfl <| .k rfl ?_
   refine .k rfl <| .k rfl <| .k rfl <| .k rfl <| .q (.pickT rfl rfl rfl) <| .nil <| sq_n <| .condT rfl rfl <| .seq <| .region rfl <| .z rfl rfl <| .nil <| sq_n <| .ret <| bq_r <| sq_r <| sq_r <| bq_r <| sq_r ?_
   obtain rfl := sI hF
   refine retQ_r (hle2.trans hle11) (.tmp rfl .nil) rfl ?_
   rfl
  have kh46 := dF h46
  have hF := cF h46 hF
  refine .py h46 (.move rfl) <| .py h46 (.fa rfl f_40_1) <| .py h46 (.ixa (j := 2) rfl rfl ae_38 (by decide)) <| .ld (k := 0) (.yes rfl rfl h46) rfl rfl rfl trivial (.s rfl (.tl (.tl (.tl (.tl (.tl (.tl .hd)))))) a_3 rfl) <| .py h46 (.fa rfl f_27_0) <| .ld (k := 0) (.yes rfl rfl h46) rfl rfl rfl trivial (.s rfl .hd a_3 rfl) <| .py h46 (.bin rfl rfl rfl) <| .q (.pickF rfl h46 rfl) <| .m rfl rfl <| .split (t := 201) rfl (fun h47 => ?_) (fun h47 => ?_)
  ·have kh47 := dT h47
   have hF := cT h47 hF
   refine .k h47 <| .k h47 <| .k h47 <| .k h47 <| .k h47 <| .k h47 <| .k h47 <| .q (.pickT rfl h47 rfl) <| .m rfl rfl <| .k rfl <| .k rfl <| .k rfl <| .k rfl <| .k rfl <| .k rfl <| .k rfl <| .q (.pickT rfl rfl rfl) <| .m rfl rfl <| .k rfl <| .k rfl <| .k rfl <| .k rfl <| .k rfl <| .k rfl <| .k rfl <| .q (.pickT rfl rfl rfl) <| .nil <| sq_n <| .condT rfl rfl <| .seq <| .region rfl ?_
   refine .z rfl rfl <| .nil <| sq_n <| .ret <| bq_r <| sq_r <| sq_r <| bq_r <| sq_r ?_
   obtain rfl := sI hF
   refine retQ_r (hle2.trans hle11) (.tmp rfl .nil) rfl ?_
   rfl
  have kh47 := dF h47
  have hF := cF h47 hF
  refine .py h47 (.move rfl) <| .py h47 (.fa rfl f_40_1) <| .py h47 (.ixa (j := 2) rfl rfl ae_38 (by decide)) <| .ld (k := 0) (.yes rfl rfl h47) rfl rfl rfl trivial (.s rfl (.tl (.tl (.tl (.tl (.tl (.tl .hd)))))) a_3 rfl) <| .py h47 (.fa rfl f_27_1) <| .ld (k := 0) (.yes rfl rfl h47) rfl rfl rfl trivial (.s rfl .hd a_3 rfl) <| .py h47 (.bin rfl rfl rfl) <| .q (.pickF rfl h47 rfl) <| .m rfl rfl <| .split (t := 210) rfl (fun h48 => ?_) (fun h48 => ?_)
  ·have kh48 := dT h48
   have hF := cT h48 hF
   refine .k h48 <| .k h48 <| .k h48 <| .k h48 <| .k h48 <| .k h48 <| .k h48 <| .q (.pickT rfl h48 rfl) <| .m rfl rfl <| .k rfl <| .k rfl <| .k rfl <| .k rfl <| .k rfl <| .k rfl <| .k rfl <| .q (.pickT rfl rfl rfl) <| .nil <| sq_n <| .condT rfl rfl <| .seq <| .region rfl <| .z rfl rfl <| .nil <| sq_n <| .ret <| bq_r <| sq_r <| sq_r <| bq_r <| sq_r ?_
   obtain rfl := sI hF
   refine retQ_r (hle2.trans hle11) (.tmp rfl .nil) rfl ?_
   rfl
  have kh48 := dF h48
  have hF := cF h48 hF
  refine .py h48 (.move rfl) <| .py h48 (.fa rfl f_40_1) <| .py h48 (.ixa (j := 2) rfl rfl ae_38 (by decide)) <| .ld (k := 0) (.yes rfl rfl h48) rfl rfl rfl trivial (.s rfl (.tl (.tl (.tl (.tl (.tl .hd))))) a_3 rfl) <| .py h48 (.fa rfl f_27_0) <| .ld (k := 0) (.yes rfl rfl h48) rfl rfl rfl trivial (.s rfl .hd a_3 rfl) <| .py h48 (.bin rfl rfl rfl) <| .q (.pickF rfl h48 rfl) <| .m rfl rfl <| .split (t := 219) rfl (fun h49 => ?_) (fun h49 => ?_)
  ·have kh49 := dT h49
   have hF := cT h49 hF
   refine .k h49 <| .k h49 <| .k h49 <| .k h49 <| .k h49 <| .k h49 <| .k h49 <| .q (.pickT rfl h49 rfl) <| .nil <| sq_n <| .condT rfl rfl <| .seq <| .region rfl <| .z rfl rfl <| .nil <| sq_n <| .ret <| bq_r <| sq_r <| sq_r <| bq_r <| sq_r ?_
   obtain rfl := sI hF
   refine retQ_r (hle2.trans hle11) (.tmp rfl .nil) rfl ?_
   rfl
  have kh49 := dF h49
  have hF := cF h49 hF
  refine .py h49 (.move rfl) <| .py h49 (.fa rfl f_40_1) <| .py h49 (.ixa (j := 2) rfl rfl ae_38 (by decide)) <| .ld (k := 0) (.yes rfl rfl h49) rfl rfl rfl trivial (.s rfl (.tl (.tl (.tl (.tl (.tl .hd))))) a_3 rfl) <| .py h49 (.fa rfl f_27_1) <| .ld (k := 0) (.yes rfl rfl h49) rfl rfl rfl trivial (.s rfl .hd a_3 rfl) <| .py h49 (.bin rfl rfl rfl) <| .q (.pickF rfl h49 rfl) <| .nil <| sq_n <| .cond rfl (fun h50 => ?_) (fun h50 => ?_)
  ·have kh50 := dT h50
   have hF := cT h50 hF
   refine .seq <| .region rfl <| .z rfl rfl <| .nil <| sq_n <| .ret <| bq_r <| sq_r <| sq_r <| bq_r <| sq_r ?_
   obtain rfl := sI hF
   refine retQ_r (hle2.trans hle11) (.tmp rfl .nil) rfl ?_
   rfl
  have kh50 := dF h50
  have hF := cF h50 hF
  refine .skip <| bq_n <| sq_n <| .region rfl <| .m rfl rfl <| .q (.addL (c := 3) rfl rfl rfl (by decide)) <| .z rfl rfl <| .nil <| sq_n <| .unroll <| .seq <| .seq <| .region rfl <| .m rfl rfl <| .b rfl rfl rfl rfl <| .nil <| sq_n <| .condT rfl (by decide) <| .skip <| sq_n <| .seq <| .block <| .seq <| .region rfl <| .m rfl rfl <| .q (.fa rfl f_85_1) <| .q (.ixa (j := 3) rfl rfl ae_83 (by decide)) <| .q (.fa rfl f_82_2) <| .w (.a (vs := [_, _]) rfl (.tl (.tl (.tl (.tl .hd)))) a_27 s_27 rfl rfl) <| .alloc .no rfl z_27 fun b51 => .st (cs' := [_, _]) .no rfl rfl rfl rfl s_27 rfl rfl .hd rfl rfl <| .nil <| sq_n <| .seq <| .region rfl <| .m rfl rfl ?_
  refine .m rfl rfl <| .q (.fa rfl f_85_1) <| .q (.ixa (j := 3) rfl rfl ae_83 (by decide)) <| .q (.fa rfl f_82_1) <| .w (.s rfl (.tl (.tl (.tl (.tl (.tl .hd))))) a_66 rfl) <| .q (.lenR rfl rfl rfl e_66 h14_11_0) <| .b rfl rfl rfl rfl <| .z rfl rfl <| .nil <| sq_n <| .seq <| .draw (tb := [r0 0 0, r0 1 0, r0 3 0, r0 0 0, r0 8 0, r1 31 0, r1 63 0, r0 127 0, r0 255 0, r0 511 0, r0 127 0, r0 1151 0, r1 4095 0, r1 8191 0, r1 16383 0, r0 32767 0, r0 32767 0, r0 131071 0, r0 262143 0, r0 32767 0, r0 557055 0, r1 2097151 0, r1 4194303 0, r1 8388607 0, r0 16777215 0, r0 16777215 0, r0 67108863 0, r0 134217727 0, r0 16777215 0, r0 285212671 0, r1 1073741823 0, r1 2147483647 0, r1 4294967295 0, r0 8589934591 0, r0 8589934591 0, r0 34359738367 0, r0 68719476735 0, r0 8589934591 0, r0 146028888063 0, r1 549755813887 0, r1 1099511627775 0, r1 2199023255551 0, r0 4398046511103 0, r0 4398046511103 0, r0 17592186044415 0, r0 35184372088831 0, r0 4398046511103 0, r0 74766790688767 0, r1 281474976710655 0, r1 562949953421311 0]) rfl (by kernel_rfl) (by kernel_rfl) ?_
  refine .m rfl rfl <| .q (.ixa (j := 3) rfl rfl ae_38 (by decide)) <| .y rfl rfl rfl (.s rfl (.tl (.tl (.tl (.tl .hd)))) a_3 rfl) <| .q (.fa rfl f_27_0) <| .y rfl rfl rfl (.s rfl .hd a_3 rfl) <| .b rfl rfl rfl rfl <| .m rfl rfl <| .split (t := 184) rfl (fun h52 => ?_) (fun h52 => ?_)
  ·have kh52 := dT h52
   have hF := cT h52 hF
   refine .k h52 <| .k h52 <| .k h52 <| .k h52 <| .k h52 <| .k h52 <| .q (.pickT rfl h52 rfl) <| .m rfl rfl <| .k rfl <| .k rfl <| .k rfl <| .k rfl <| .k rfl <| .k rfl <| .k rfl <| .q (.pickT rfl rfl rfl) <| .m rfl rfl <| .k rfl <| .k rfl <| .k rfl <| .k rfl <| .k rfl <| .k rfl <| .k rfl <| .q (.pickT rfl rfl rfl) <| .m rfl rfl <| .k rfl <| .k rfl <| .k rfl <| .k rfl ?_
   refine .k rfl <| .k rfl <| .k rfl <| .q (.pickT rfl rfl rfl) <| .m rfl rfl <| .k rfl <| .k rfl <| .k rfl <| .k rfl <| .k rfl <| .k rfl <| .k rfl <| .q (.pickT rfl rfl rfl) <| .nil <| sq_n <| .condT rfl rfl <| .seq <| .region rfl <| .z rfl rfl <| .nil <| sq_n <| .ret <| bq_r <| sq_r <| sq_r <| bq_r <| sq_r ?_
   obtain rfl := sI hF
   refine retQ_r (hle2.trans hle11) (.tmp rfl .nil) rfl ?_
   rfl
  have kh52 := dF h52
  have hF := cF h52 hF
  refine .py h52 (.move rfl) <| .py h52 (.ixa (j := 3) rfl rfl ae_38 (by decide)) <| .ld (k := 0) (.yes rfl rfl h52) rfl rfl rfl trivial (.s rfl (.tl (.tl (.tl (.tl .hd)))) a_3 rfl) <| .py h52 (.fa rfl f_27_1) <| .ld (k := 0) (.yes rfl rfl h52) rfl rfl rfl trivial (.s rfl .hd a_3 rfl) <| .py h52 (.bin rfl rfl rfl) <| .q (.pickF rfl h52 rfl) <| .m rfl rfl <| .split (t := 192) rfl (fun h53 => ?_) (fun h53 => ?_)
  ·have kh53 := dT h53
   have hF := cT h53 hF
   refine .k h53 <| .k h53 <| .k h53 <| .k h53 <| .k h53 <| .k h53 <| .k h53 <| .q (.pickT rfl h53 rfl) <| .m rfl rfl <| .k rfl <| .k rfl <| .k rfl <| .k rfl <| .k rfl <| .k rfl <| .k rfl <| .q (.pickT rfl rfl rfl) <| .m rfl rfl <| .k rfl <| .k rfl <| .k rfl <| .k rfl <| .k rfl <| .k rfl <| .k rfl <| .q (.pickT rfl rfl rfl) <| .m rfl rfl <| .k rfl <| .k rfl <| .k rfl ?_
   refine .k rfl <| .k rfl <| .k rfl <| .k rfl <| .q (.pickT rfl rfl rfl) <| .nil <| sq_n <| .condT rfl rfl <| .seq <| .region rfl <| .z rfl rfl <| .nil <| sq_n <| .ret <| bq_r <| sq_r <| sq_r <| bq_r <| sq_r ?_
   obtain rfl := sI hF
   refine retQ_r (hle2.trans hle11) (.tmp rfl .nil) rfl ?_
   rfl
  have kh53 := dF h53
  have hF := cF h53 hF
  refine .py h53 (.move rfl) <| .py h53 (.fa rfl f_40_1) <| .py h53 (.ixa (j := 3) rfl rfl ae_38 (by decide)) <| .ld (k := 0) (.yes rfl rfl h53) rfl rfl rfl trivial (.s rfl (.tl (.tl (.tl (.tl (.tl (.tl (.tl .hd))))))) a_3 rfl) <| .py h53 (.fa rfl f_27_0) <| .ld (k := 0) (.yes rfl rfl h53) rfl rfl rfl trivial (.s rfl .hd a_3 rfl) <| .py h53 (.bin rfl rfl rfl) <| .q (.pickF rfl h53 rfl) <| .m rfl rfl <| .split (t := 201) rfl (fun h54 => ?_) (fun h54 => ?_)
  ·have kh54 := dT h54
   have hF := cT h54 hF
   refine .k h54 <| .k h54 <| .k h54 <| .k h54 <| .k h54 <| .k h54 <| .k h54 <| .q (.pickT rfl h54 rfl) <| .m rfl rfl <| .k rfl <| .k rfl <| .k rfl <| .k rfl <| .k rfl <| .k rfl <| .k rfl <| .q (.pickT rfl rfl rfl) <| .m rfl rfl <| .k rfl <| .k rfl <| .k rfl <| .k rfl <| .k rfl <| .k rfl <| .k rfl <| .q (.pickT rfl rfl rfl) <| .nil <| sq_n <| .condT rfl rfl <| .seq <| .region rfl ?_
   refine .z rfl rfl <| .nil <| sq_n <| .ret <| bq_r <| sq_r <| sq_r <| bq_r <| sq_r ?_
   obtain rfl := sI hF
   refine retQ_r (hle2.trans hle11) (.tmp rfl .nil) rfl ?_
   rfl
  have kh54 := dF h54
  have hF := cF h54 hF
  refine .py h54 (.move rfl) <| .py h54 (.fa rfl f_40_1) <| .py h54 (.ixa (j := 3) rfl rfl ae_38 (by decide)) <| .ld (k := 0) (.yes rfl rfl h54) rfl rfl rfl trivial (.s rfl (.tl (.tl (.tl (.tl (.tl (.tl (.tl .hd))))))) a_3 rfl) <| .py h54 (.fa rfl f_27_1) <| .ld (k := 0) (.yes rfl rfl h54) rfl rfl rfl trivial (.s rfl .hd a_3 rfl) <| .py h54 (.bin rfl rfl rfl) <| .q (.pickF rfl h54 rfl) <| .m rfl rfl <| .split (t := 210) rfl (fun h55 => ?_) (fun h55 => ?_)
  ·have kh55 := dT h55
   have hF := cT h55 hF
   refine .k h55 <| .k h55 <| .k h55 <| .k h55 <| .k h55 <| .k h55 <| .k h55 <| .q (.pickT rfl h55 rfl) <| .m rfl rfl <| .k rfl <| .k rfl <| .k rfl <| .k rfl <| .k rfl <| .k rfl <| .k rfl <| .q (.pickT rfl rfl rfl) <| .nil <| sq_n <| .condT rfl rfl <| .seq <| .region rfl <| .z rfl rfl <| .nil <| sq_n <| .ret <| bq_r <| sq_r <| sq_r <| bq_r <| sq_r ?_
   obtain rfl := sI hF
   refine retQ_r (hle2.trans hle11) (.tmp rfl .nil) rfl ?_
   rfl
  have kh55 := dF h55
  have hF := cF h55 hF
  refine .py h55 (.move rfl) <| .py h55 (.fa rfl f_40_1) <| .py h55 (.ixa (j := 3) rfl rfl ae_38 (by decide)) <| .ld (k := 0) (.yes rfl rfl h55) rfl rfl rfl trivial (.s rfl (.tl (.tl (.tl (.tl (.tl (.tl .hd)))))) a_3 rfl) <| .py h55 (.fa rfl f_27_0) <| .ld (k := 0) (.yes rfl rfl h55) rfl rfl rfl trivial (.s rfl .hd a_3 rfl) <| .py h55 (.bin rfl rfl rfl) <| .q (.pickF rfl h55 rfl) <| .m rfl rfl <| .split (t := 219) rfl (fun h56 => ?_) (fun h56 => ?_)
  ·have kh56 := dT h56
   have hF := cT h56 hF
   refine .k h56 <| .k h56 <| .k h56 <| .k h56 <| .k h56 <| .k h56 <| .k h56 <| .q (.pickT rfl h56 rfl) <| .nil <| sq_n <| .condT rfl rfl <| .seq <| .region rfl <| .z rfl rfl <| .nil <| sq_n <| .ret <| bq_r <| sq_r <| sq_r <| bq_r <| sq_r ?_
   obtain rfl := sI hF
   refine retQ_r (hle2.trans hle11) (.tmp rfl .nil) rfl ?_
   rfl
  have kh56 := dF h56
  have hF := cF h56 hF
  refine .py h56 (.move rfl) <| .py h56 (.fa rfl f_40_1) <| .py h56 (.ixa (j := 3) rfl rfl ae_38 (by decide)) <| .ld (k := 0) (.yes rfl rfl h56) rfl rfl rfl trivial (.s rfl (.tl (.tl (.tl (.tl (.tl (.tl .hd)))))) a_3 rfl) <| .py h56 (.fa rfl f_27_1) <| .ld (k := 0) (.yes rfl rfl h56) rfl rfl rfl trivial (.s rfl .hd a_3 rfl) <| .py h56 (.bin rfl rfl rfl) <| .q (.pickF rfl h56 rfl) <| .nil <| sq_n <| .cond rfl (fun h57 => ?_) (fun h57 => ?_)
  ·have kh57 := dT h57
   have hF := cT h57 hF
   refine .seq <| .region rfl <| .z rfl rfl <| .nil <| sq_n <| .ret <| bq_r <| sq_r <| sq_r <| bq_r <| sq_r ?_
   obtain rfl := sI hF
   refine retQ_r (hle2.trans hle11) (.tmp rfl .nil) rfl ?_
   rfl
  have kh57 := dF h57
  have hF := cF h57 hF
  refine .skip <| bq_n <| sq_n <| .region rfl <| .m rfl rfl <| .q (.addL (c := 4) rfl rfl rfl (by decide)) <| .z rfl rfl <| .nil <| sq_n <| .unroll <| .seq <| .seq <| .region rfl <| .m rfl rfl <| .b rfl rfl rfl rfl <| .nil <| sq_n <| .condT rfl (by decide) <| .skip <| sq_n <| .seq <| .block <| .seq <| .region rfl <| .m rfl rfl <| .q (.fa rfl f_85_1) <| .q (.ixa (j := 4) rfl rfl ae_83 (by decide)) <| .q (.fa rfl f_82_2) <| .w (.a (vs := [_, _]) rfl (.tl (.tl (.tl (.tl (.tl .hd))))) a_27 s_27 rfl rfl) <| .alloc .no rfl z_27 fun b58 => .st (cs' := [_, _]) .no rfl rfl rfl rfl s_27 rfl rfl .hd rfl rfl <| .nil <| sq_n <| .seq <| .region rfl <| .m rfl rfl ?_
  refine .m rfl rfl <| .q (.fa rfl f_85_1) <| .q (.ixa (j := 4) rfl rfl ae_83 (by decide)) <| .q (.fa rfl f_82_1) <| .w (.s rfl (.tl (.tl (.tl (.tl (.tl (.tl .hd)))))) a_66 rfl) <| .q (.lenR rfl rfl rfl e_66 h18_11_0) <| .b rfl rfl rfl rfl <| .z rfl rfl <| .nil <| sq_n <| .seq <| .draw (tb := [r0 0 0, r0 1 0, r0 3 0, r0 0 0, r0 8 0, r1 31 0, r1 63 0, r0 127 0, r0 255 0, r0 511 0, r0 127 0, r0 1151 0, r1 4095 0, r1 8191 0, r1 16383 0, r0 32767 0, r0 32767 0, r0 131071 0, r0 262143 0, r0 32767 0, r0 557055 0, r1 2097151 0, r1 4194303 0, r1 8388607 0, r0 16777215 0, r0 16777215 0, r0 67108863 0, r0 134217727 0, r0 16777215 0, r0 285212671 0, r1 1073741823 0, r1 2147483647 0, r1 4294967295 0, r0 8589934591 0, r0 8589934591 0, r0 34359738367 0, r0 68719476735 0, r0 8589934591 0, r0 146028888063 0, r1 549755813887 0, r1 1099511627775 0, r1 2199023255551 0, r0 4398046511103 0, r0 4398046511103 0, r0 17592186044415 0, r0 35184372088831 0, r0 4398046511103 0, r0 74766790688767 0, r1 281474976710655 0, r1 562949953421311 0]) rfl (by kernel_rfl) (by kernel_rfl) ?_
  refine .m rfl rfl <| .q (.ixa (j := 4) rfl rfl ae_38 (by decide)) <| .y rfl rfl rfl (.s rfl (.tl (.tl (.tl (.tl (.tl .hd))))) a_3 rfl) <| .q (.fa rfl f_27_0) <| .y rfl rfl rfl (.s rfl .hd a_3 rfl) <| .b rfl rfl rfl rfl <| .m rfl rfl <| .split (t := 184) rfl (fun h59 => ?_) (fun h59 => ?_)
  ·have kh59 := dT h59
   have hF := cT h59 hF
   refine .k h59 <| .k h59 <| .k h59 <| .k h59 <| .k h59 <| .k h59 <| .q (.pickT rfl h59 rfl) <| .m rfl rfl <| .k rfl <| .k rfl <| .k rfl <| .k rfl <| .k rfl <| .k rfl <| .k rfl <| .q (.pickT rfl rfl rfl) <| .m rfl rfl <| .k rfl <| .k rfl <| .k rfl <| .k rfl <| .k rfl <| .k rfl <| .k rfl <| .q (.pickT rfl rfl rfl) <| .m rfl rfl <| .k rfl <| .k rfl <| .k rfl <| .k rfl ?_
   refine .k rfl <| .k rfl <| .k rfl <| .q (.pickT rfl rfl rfl) <| .m rfl rfl <| .k rfl <| .k rfl <| .k rfl <| .k rfl <| .k rfl <| .k rfl <| .k rfl <| .q (.pickT rfl rfl rfl) <| .nil <| sq_n <| .condT rfl rfl <| .seq <| .region rfl <| .z rfl rfl <| .nil <| sq_n <| .ret <| bq_r <| sq_r <| sq_r <| bq_r <| sq_r ?_
   obtain rfl := sI hF
   refine retQ_r (hle2.trans hle11) (.tmp rfl .nil) rfl ?_
   rfl
  have kh59 := dF h59
  have hF := cF h59 hF
  refine .py h59 (.move rfl) <| .py h59 (.ixa (j := 4) rfl rfl ae_38 (by decide)) <| .ld (k := 0) (.yes rfl rfl h59) rfl rfl rfl trivial (.s rfl (.tl (.tl (.tl (.tl (.tl .hd))))) a_3 rfl) <| .py h59 (.fa rfl f_27_1) <| .ld (k := 0) (.yes rfl rfl h59) rfl rfl rfl trivial (.s rfl .hd a_3 rfl) <| .py h59 (.bin rfl rfl rfl) <| .q (.pickF rfl h59 rfl) <| .m rfl rfl <| .split (t := 192) rfl (fun h60 => ?_) (fun h60 => ?_)
  ·have kh60 := dT h60
   have hF := cT h60 hF
   refine .k h60 <| .k h60 <| .k h60 <| .k h60 <| .k h60 <| .k h60 <| .k h60 <| .q (.pickT rfl h60 rfl) <| .m rfl rfl <| .k rfl <| .k rfl <| .k rfl <| .k rfl <| .k rfl <| .k rfl <| .k rfl <| .q (.pickT rfl rfl rfl) <| .m rfl rfl <| .k rfl <| .k rfl <| .k rfl <| .k rfl <| .k rfl <| .k rfl <| .k rfl <| .q (.pickT rfl rfl rfl) <| .m rfl rfl <| .k rfl <| .k rfl <| .k rfl ?_
   refine .k rfl <| .k rfl <| .k rfl <| .k rfl <| .q (.pickT rfl rfl rfl) <| .nil <| sq_n <| .condT rfl rfl <| .seq <| .region rfl <| .z rfl rfl <| .nil <| sq_n <| .ret <| bq_r <| sq_r <| sq_r <| bq_r <| sq_r ?_
   obtain rfl := sI hF
   refine retQ_r (hle2.trans hle11) (.tmp rfl .nil) rfl ?_
   rfl
  have kh60 := dF h60
  have hF := cF h60 hF
  refine .py h60 (.move rfl) <| .py h60 (.fa rfl f_40_1) <| .py h60 (.ixa (j := 4) rfl rfl ae_38 (by decide)) <| .ld (k := 0) (.yes rfl rfl h60) rfl rfl rfl trivial (.s rfl (.tl (.tl (.tl (.tl (.tl (.tl (.tl (.tl .hd)))))))) a_3 rfl) <| .py h60 (.fa rfl f_27_0) <| .ld (k := 0) (.yes rfl rfl h60) rfl rfl rfl trivial (.s rfl .hd a_3 rfl) <| .py h60 (.bin rfl rfl rfl) <| .q (.pickF rfl h60 rfl) <| .m rfl rfl <| .split (t := 201) rfl (fun h61 => ?_) (fun h61 => ?_)
  ·have kh61 := dT h61
   have hF := cT h61 hF
   refine .k h61 <| .k h61 <| .k h61 <| .k h61 <| .k h61 <| .k h61 <| .k h61 <| .q (.pickT rfl h61 rfl) <| .m rfl rfl <| .k rfl <| .k rfl <| .k rfl <| .k rfl <| .k rfl <| .k rfl <| .k rfl <| .q (.pickT rfl rfl rfl) <| .m rfl rfl <| .k rfl <| .k rfl <| .k rfl <| .k rfl <| .k rfl <| .k rfl <| .k rfl <| .q (.pickT rfl rfl rfl) <| .nil <| sq_n <| .condT rfl rfl <| .seq <| .region rfl ?_
   refine .z rfl rfl <| .nil <| sq_n <| .ret <| bq_r <| sq_r <| sq_r <| bq_r <| sq_r ?_
   obtain rfl := sI hF
   refine retQ_r (hle2.trans hle11) (.tmp rfl .nil) rfl ?_
   rfl
  have kh61 := dF h61
  have hF := cF h61 hF
  refine .py h61 (.move rfl) <| .py h61 (.fa rfl f_40_1) <| .py h61 (.ixa (j := 4) rfl rfl ae_38 (by decide)) <| .ld (k := 0) (.yes rfl rfl h61) rfl rfl rfl trivial (.s rfl (.tl (.tl (.tl (.tl (.tl (.tl (.tl (.tl .hd)))))))) a_3 rfl) <| .py h61 (.fa rfl f_27_1) <| .ld (k := 0) (.yes rfl rfl h61) rfl rfl rfl trivial (.s rfl .hd a_3 rfl) <| .py h61 (.bin rfl rfl rfl) <| .q (.pickF rfl h61 rfl) <| .m rfl rfl <| .split (t := 210) rfl (fun h62 => ?_) (fun h62 => ?_)
  ·have kh62 := dT h62
   have hF := cT h62 hF
   refine .k h62 <| .k h62 <| .k h62 <| .k h62 <| .k h62 <| .k h62 <| .k h62 <| .q (.pickT rfl h62 rfl) <| .m rfl rfl <| .k rfl <| .k rfl <| .k rfl <| .k rfl <| .k rfl <| .k rfl <| .k rfl <| .q (.pickT rfl rfl rfl) <| .nil <| sq_n <| .condT rfl rfl <| .seq <| .region rfl <| .z rfl rfl <| .nil <| sq_n <| .ret <| bq_r <| sq_r <| sq_r <| bq_r <| sq_r ?_
   obtain rfl := sI hF
   refine retQ_r (hle2.trans hle11) (.tmp rfl .nil) rfl ?_
   rfl
  have kh62 := dF h62
  have hF := cF h62 hF
  refine .py h62 (.move rfl) <| .py h62 (.fa rfl f_40_1) <| .py h62 (.ixa (j := 4) rfl rfl ae_38 (by decide)) <| .ld (k := 0) (.yes rfl rfl h62) rfl rfl rfl trivial (.s rfl (.tl (.tl (.tl (.tl (.tl (.tl (.tl .hd))))))) a_3 rfl) <| .py h62 (.fa rfl f_27_0) <| .ld (k := 0) (.yes rfl rfl h62) rfl rfl rfl trivial (.s rfl .hd a_3 rfl) <| .py h62 (.bin rfl rfl rfl) <| .q (.pickF rfl h62 rfl) <| .m rfl rfl <| .split (t := 219) rfl (fun h63 => ?_) (fun h63 => ?_)
  ·have kh63 := dT h63
   have hF := cT h63 hF
   refine .k h63 <| .k h63 <| .k h63 <| .k h63 <| .k h63 <| .k h63 <| .k h63 <| .q (.pickT rfl h63 rfl) <| .nil <| sq_n <| .condT rfl rfl <| .seq <| .region rfl <| .z rfl rfl <| .nil <| sq_n <| .ret <| bq_r <| sq_r <| sq_r <| bq_r <| sq_r ?_
   obtain rfl := sI hF
   refine retQ_r (hle2.trans hle11) (.tmp rfl .nil) rfl ?_
   rfl
  have kh63 := dF h63
  have hF := cF h63 hF
  refine .py h63 (.move rfl) <| .py h63 (.fa rfl f_40_1) <| .py h63 (.ixa (j := 4) rfl rfl ae_38 (by decide)) <| .ld (k := 0) (.yes rfl rfl h63) rfl rfl rfl trivial (.s rfl (.tl (.tl (.tl (.tl (.tl (.tl (.tl .hd))))))) a_3 rfl) <| .py h63 (.fa rfl f_27_1) <| .ld (k := 0) (.yes rfl rfl h63) rfl rfl rfl trivial (.s rfl .hd a_3 rfl) <| .py h63 (.bin rfl rfl rfl) <| .q (.pickF rfl h63 rfl) <| .nil <| sq_n <| .cond rfl (fun h64 => ?_) (fun h64 => ?_)
  ·have kh64 := dT h64
   have hF := cT h64 hF
   refine .seq <| .region rfl <| .z rfl rfl <| .nil <| sq_n <| .ret <| bq_r <| sq_r <| sq_r <| bq_r <| sq_r ?_
   obtain rfl := sI hF
   refine retQ_r (hle2.trans hle11) (.tmp rfl .nil) rfl ?_
   rfl
  have kh64 := dF h64
  have hF := cF h64 hF
  refine .skip <| bq_n <| sq_n <| .region rfl <| .m rfl rfl <| .q (.addL (c := 5) rfl rfl rfl (by decide)) <| .z rfl rfl <| .nil <| sq_n <| .unroll <| .seq <| .seq <| .region rfl <| .m rfl rfl <| .b rfl rfl rfl rfl <| .nil <| sq_n <| .condF rfl (by decide) <| .exit <| sq_e <| sq_e <| bq_x rfl <| sq_n <| .seq <| .region rfl <| .w (.a (vs := [_, _]) rfl (.tl (.tl (.tl (.tl (.tl (.tl (.tl (.tl (.tl (.tl (.tl .hd))))))))))) a_24 s_24 rfl rfl) <| .m rfl rfl <| .q (.fa rfl f_37_1) <| .w (.s rfl (.tl (.tl (.tl (.tl (.tl (.tl (.tl (.tl (.tl (.tl .hd)))))))))) a_3 rfl) <| .q (.fa rfl f_40_1) <| .w (.a (vs := [_, _, _, _, _]) rfl (.tl (.tl (.tl (.tl (.tl (.tl (.tl (.tl .hd)))))))) a_38 s_38 rfl rfl) <| .callV .no rfl rfl rfl (Tonnage_ok _ _ _ _ _ _ _ _ _ _ ⟨_, rfl, hc2_0⟩) <| .m rfl rfl <| .q (.ext rfl rfl) <| .q (.ext rfl rfl) <| .z rfl rfl <| .z rfl rfl <| .nil <| sq_n ?_
  refine .seq <| .region rfl <| .w (.a (vs := [_, _]) rfl (.tl (.tl (.tl (.tl (.tl (.tl (.tl (.tl (.tl (.tl (.tl .hd))))))))))) a_24 s_24 rfl rfl) <| .m rfl rfl <| .q (.fa rfl f_37_1) <| .w (.s rfl (.tl (.tl (.tl (.tl (.tl (.tl (.tl (.tl (.tl (.tl .hd)))))))))) a_3 rfl) <| .q (.fa rfl f_40_1) <| .w (.a (vs := [_, _, _, _, _]) rfl (.tl (.tl (.tl (.tl (.tl (.tl (.tl .hd))))))) a_38 s_38 rfl rfl) <| .callV .no rfl rfl rfl (Tonnage_ok _ _ _ _ _ _ _ _ _ _ ⟨_, rfl, hc2_0⟩) <| .m rfl rfl <| .q (.ext rfl rfl) <| .q (.ext rfl rfl) <| .z rfl rfl <| .z rfl rfl <| .nil <| sq_n <| .seq <| .region rfl <| .m rfl rfl <| .b rfl rfl rfl rfl <| .m rfl rfl <| .split (t := 250) rfl (fun h67 => ?_) (fun h67 => ?_)
  ·have kh67 := dT h67
   have hF := cT h67 hF
   refine .py h67 (.move rfl) <| .py h67 (.bin rfl rfl rfl) <| .q (.pickT rfl h67 rfl) <| .m rfl rfl <| .split (t := 254) rfl (fun h68 => ?_) (fun h68 => ?_)
   ·have kh68 := dT h68
    have hF := cT h68 hF
    refine .py h68 (.move rfl) <| .py h68 (.fa rfl f_27_0) <| .wy h68 (.s rfl (.tl (.tl (.tl (.tl (.tl (.tl (.tl (.tl (.tl .hd))))))))) a_3 rfl) <| .py h68 (.bin rfl rfl rfl) <| .q (.pickT rfl h68 rfl) <| .m rfl rfl <| .split (t := 260) rfl (fun h69 => ?_) (fun h69 => ?_)
    ·have kh69 := dT h69
     have hF := cT h69 hF
     refine .py h69 (.move rfl) <| .py h69 (.fa rfl f_27_1) <| .wy h69 (.s rfl (.tl (.tl (.tl (.tl (.tl (.tl (.tl (.tl (.tl .hd))))))))) a_3 rfl) <| .py h69 (.bin rfl rfl rfl) <| .q (.pickT rfl h69 rfl) <| .m rfl rfl <| .split (t := 266) rfl (fun h70 => ?_) (fun h70 => ?_)
     ·have kh70 := dT h70
      have hF := cT h70 hF
      refine .py h70 (.move rfl) <| .py h70 (.fa rfl f_37_2) <| .wy h70 (.s rfl (.tl (.tl (.tl (.tl (.tl (.tl (.tl (.tl (.tl (.tl .hd)))))))))) a_25 rfl) <| .py h70 (.lenR rfl rfl rfl e_25 h2_2_1) <| .py h70 (.bin rfl rfl rfl) <| .q (.pickT rfl h70 rfl) <| .m rfl rfl <| .split (t := 273) rfl (fun h71 => ?_) (fun h71 => ?_)
      ·have kh71 := dT h71
       have hF := cT h71 hF
       refine .callV (.yes rfl rfl h71) rfl rfl rfl (sane_ok _) <| .q (.pickT rfl h71 rfl) <| .z rfl rfl <| .nil <| sq_n <| .ret ?_
       obtain rfl := sI hF
       refine retQ_r (hle2.trans hle11) (.tmp rfl .nil) rfl ?_
       rfl
      have kh71 := dF h71
      have hF := cF h71 hF
      refine .k h71 <| .q (.pickF rfl h71 rfl) <| .z rfl rfl <| .nil <| sq_n <| .ret ?_
      obtain rfl := sI hF
      refine retQ_r (hle2.trans hle11) (.tmp rfl .nil) rfl ?_
      rfl
     have kh70 := dF h70
     have hF := cF h70 hF
     refine .k h70 <| .k h70 <| .k h70 <| .k h70 <| .k h70 <| .q (.pickF rfl h70 rfl) <| .m rfl rfl <| .k rfl <| .q (.pickF rfl rfl rfl) <| .z rfl rfl <| .nil <| sq_n <| .ret ?_
     obtain rfl := sI hF
     refine retQ_r (hle2.trans hle11) (.tmp rfl .nil) rfl ?_
     rfl
    have kh69 := dF h69
    have hF := cF h69 hF
    refine .k h69 <| .k h69 <| .k h69 <| .k h69 <| .q (.pickF rfl h69 rfl) <| .m rfl rfl <| .k rfl <| .k rfl <| .k rfl <| .k rfl <| .k rfl <| .q (.pickF rfl rfl rfl) <| .m rfl rfl <| .k rfl <| .q (.pickF rfl rfl rfl) <| .z rfl rfl <| .nil <| sq_n <| .ret ?_
    obtain rfl := sI hF
    refine retQ_r (hle2.trans hle11) (.tmp rfl .nil) rfl ?_
    rfl
   have kh68 := dF h68
   have hF := cF h68 hF
   refine .k h68 <| .k h68 <| .k h68 <| .k h68 <| .q (.pickF rfl h68 rfl) <| .m rfl rfl <| .k rfl <| .k rfl <| .k rfl <| .k rfl <| .q (.pickF rfl rfl rfl) <| .m rfl rfl <| .k rfl <| .k rfl <| .k rfl <| .k rfl <| .k rfl <| .q (.pickF rfl rfl rfl) <| .m rfl rfl <| .k rfl <| .q (.pickF rfl rfl rfl) <| .z rfl rfl <| .nil <| sq_n <| .ret ?_
   obtain rfl := sI hF
   refine retQ_r (hle2.trans hle11) (.tmp rfl .nil) rfl ?_
   rfl
  have kh67 := dF h67
  have hF := cF h67 hF
  refine .k h67 <| .k h67 <| .q (.pickF rfl h67 rfl) <| .m rfl rfl <| .k rfl <| .k rfl <| .k rfl <| .k rfl <| .q (.pickF rfl rfl rfl) <| .m rfl rfl <| .k rfl <| .k rfl <| .k rfl <| .k rfl <| .q (.pickF rfl rfl rfl) <| .m rfl rfl <| .k rfl <| .k rfl <| .k rfl <| .k rfl <| .k rfl <| .q (.pickF rfl rfl rfl) <| .m rfl rfl <| .k rfl <| .q (.pickF rfl rfl rfl) <| .z rfl rfl <| .nil <| sq_n <| .ret ?_
  obtain rfl := sI hF
  refine retQ_r (hle2.trans hle11) (.tmp rfl .nil) rfl ?_
  rfl
end Go.Proofs.YtjflgemfeofciaaGreatDoor

/- Layer 4: CodeTonnages holds (plain law). -/
namespace Go.Proofs.YtjflgemfeofciaaGreatDoor
open Go Go.Ev
set_option linter.unusedVariables false
set_option linter.unusedSimpArgs false
theorem cnF {α : Type} {p : Prop} [Decidable p] {x y z : α} (h : ¬ p) (k : y = z) : cond (decide p) x y = z := by rw [decide_eq_false h]; exact k
theorem cnN {α : Type} {p : Prop} [Decidable p] {x y z : α} (h : p) (k : y = z) : cond (!decide p) x y = z := by rw [decide_eq_true h]; exact k
theorem cnT {α : Type} {p : Prop} [Decidable p] {x y z : α} (h : p) (k : x = z) : cond (decide p) x y = z := by rw [decide_eq_true h]; exact k
theorem cons_len {α β : Type} {p : α → Bool} {f : α → β} {x : α} {l : List α} : (((x :: l).filter p).map f).length = (if p x = true then 1 else 0) + ((l.filter p).map f).length := by
  rw [List.filter_cons]
  split <;> simp <;> omega
theorem ids_count {v : Version} (hv : v.puts.all Put.ok = true) : ∀ l : List Room, (idsI v 0 l).length + (idsI v 1 l).length + (idsI v 2 l).length + (idsI v 3 l).length + (idsI v 4 l).length + (idsI v 5 l).length = l.length
  | [] => rfl
  | r :: l => by
    have ih := ids_count hv l
    have hb := grp_bd hv r
    unfold idsI at ih ⊢
    rw [cons_len, cons_len, cons_len, cons_len, cons_len, cons_len, List.length_cons]
    simp only [decide_eq_true_eq]
    have : (grp v r).1 = 0 ∨ (grp v r).1 = 1 ∨ (grp v r).1 = 2 ∨ (grp v r).1 = 3 ∨ (grp v r).1 = 4 ∨ (grp v r).1 = 5 := by omega
    rcases this with e | e | e | e | e | e <;> rw [e] <;> simp at ih ⊢ <;> omega
theorem pick_ok {p : List Int} (hp : p.length ≤ 17592186044416) {k : Nat} (hk : k ≤ 20) : ∃ a, F_r01_At p (k : Int) = some a := by
  unfold F_r01_At
  by_cases h : p.length = 0
  · exact ⟨0, cnT (by omega) rfl⟩
  · obtain ⟨r, h1, h2, h3⟩ : ∃ r, F_r01_Mod (k : Int) (p.length : Int) = some r ∧ 0 ≤ r ∧ r < (p.length : Int) := by
      have e : (!decide ((p.length : Int) = 0)) = true := by rw [decide_eq_false (by omega)]; rfl
      have a1 := Int.tmod_lt_of_pos (k : Int) (b := (p.length : Int)) (by omega)
      have a2 := Int.lt_tmod_of_pos (k : Int) (b := (p.length : Int)) (by omega)
      refine ⟨Int.tmod (wr (Int.tmod (k : Int) (p.length : Int) + (p.length : Int))) (p.length : Int), ?_, ?_, Int.tmod_lt_of_pos _ (by omega)⟩
      · unfold F_r01_Mod; rw [ckT e, ckT e]
      · rw [wr_id (by omega)]
        exact Int.tmod_nonneg _ (by omega)
    obtain ⟨j, rfl⟩ : ∃ j : Nat, r = j := ⟨r.toNat, by omega⟩
    refine ⟨p[j]'(by omega), cnF (by omega) ?_⟩
    rw [h1]
    simp only [Option.bind_some, atI_nat]
    rw [List.getElem?_eq_getElem (by omega)]; rfl
/-- the numbers that are picked lie within the litres. -/
theorem sums_l1 {v : Version} (hv : v.puts.all Put.ok = true) {p : List Int} (hp : p.length ≤ 17592186044416) : ∀ (ys : List Room) (k : Nat) (z1 z2 z3 z4 z5 n : Int), (∀ r ∈ ys, 0 ≤ r.lo ∧ r.lo ≤ r.hi ∧ r.hi ≤ 1000000000) → k + ys.length ≤ 20 → 0 ≤ n → n + ys.length ≤ 20 →
    (0 ≤ z1 ∧ z1 ≤ n * 1000000000) → (0 ≤ z2 ∧ z2 ≤ n * 1000000000) → (0 ≤ z3 ∧ z3 ≤ n * 1000000000) → (0 ≤ z4 ∧ z4 ≤ n * 1000000000) → (0 ≤ z5 ∧ z5 ≤ n * 1000000000) →
    ∃ e1 e2 e3 e4 e5, F_r04_Sums_l1 v p ys k z1 z2 z3 z4 z5 = some (e1, e2, e3, e4, e5) ∧ (z1 + sumI (inG v Room.lo 1) ys ≤ e1 ∧ e1 ≤ z1 + sumI (inG v Room.hi 1) ys) ∧ (z2 + sumI (inG v Room.lo 2) ys ≤ e2 ∧ e2 ≤ z2 + sumI (inG v Room.hi 2) ys) ∧ (z3 + sumI (inG v Room.lo 3) ys ≤ e3 ∧ e3 ≤ z3 + sumI (inG v Room.hi 3) ys) ∧ (z4 + sumI (inG v Room.lo 4) ys ≤ e4 ∧ e4 ≤ z4 + sumI (inG v Room.hi 4) ys) ∧ (z5 + sumI (inG v Room.lo 5) ys ≤ e5 ∧ e5 ≤ z5 + sumI (inG v Room.hi 5) ys)
  | [], k, z1, z2, z3, z4, z5, n, _, _, _, _, _, _, _, _, _ => ⟨z1, z2, z3, z4, z5, rfl, by simp only [sumI]; omega, by simp only [sumI]; omega, by simp only [sumI]; omega, by simp only [sumI]; omega, by simp only [sumI]; omega⟩
  | y :: ys, k, z1, z2, z3, z4, z5, n, hr, hk, h0, hn, b1, b2, b3, b4, b5 => by
    have hy := hr y List.mem_cons_self
    have ih := fun w1 w2 w3 w4 w5 => sums_l1 hv hp ys (k + 1) w1 w2 w3 w4 w5 (n + 1) (fun r h => hr r (List.mem_cons_of_mem _ h)) (by rw [List.length_cons] at hk; omega) (by omega) (by rw [List.length_cons] at hn; omega)
    rw [List.length_cons] at hk hn
    obtain ⟨a, ha⟩ := pick_ok hp (k := k) (by omega)
    have e1 : wr (y.hi - y.lo) = y.hi - y.lo := wr_id (by omega)
    have e2 : wr (y.hi - y.lo + 1) = y.hi - y.lo + 1 := wr_id (by omega)
    obtain ⟨m, m1, m2, m3⟩ := mod_big a (m := y.hi - y.lo + 1) (by omega)
    have e3 : wr (y.lo + m) = y.lo + m := wr_id (by omega)
    have e4 : ∀ z : Int, 0 ≤ z ∧ z ≤ n * 1000000000 → wr (z + (y.lo + m)) = z + (y.lo + m) := fun z hz => wr_id (by omega)
    have hb := grp_bd hv y
    have hg : F_r04_group v y = some ((grp v y).1, (grp v y).2) := ckT hv
    rw [F_r04_Sums_l1, hg]
    simp only [Option.bind_some, ha, e1, e2, m1, e3, e4 z1 b1, e4 z2 b2, e4 z3 b3, e4 z4 b4, e4 z5 b5, sumI, inG]
    have : (grp v y).1 = 0 ∨ (grp v y).1 = 1 ∨ (grp v y).1 = 2 ∨ (grp v y).1 = 3 ∨ (grp v y).1 = 4 ∨ (grp v y).1 = 5 := by omega
    rcases this with e | e | e | e | e | e <;> rw [e]
    · obtain ⟨e1, e2, e3, e4, e5, x0, x1, x2, x3, x4, x5⟩ := ih z1 z2 z3 z4 z5 (by omega) (by omega) (by omega) (by omega) (by omega)
      exact ⟨e1, e2, e3, e4, e5, x0, by simp; omega, by simp; omega, by simp; omega, by simp; omega, by simp; omega⟩
    · obtain ⟨e1, e2, e3, e4, e5, x0, x1, x2, x3, x4, x5⟩ := ih (z1 + (y.lo + m)) z2 z3 z4 z5 (by omega) (by omega) (by omega) (by omega) (by omega)
      exact ⟨e1, e2, e3, e4, e5, x0, by simp; omega, by simp; omega, by simp; omega, by simp; omega, by simp; omega⟩
    · obtain ⟨e1, e2, e3, e4, e5, x0, x1, x2, x3, x4, x5⟩ := ih z1 (z2 + (y.lo + m)) z3 z4 z5 (by omega) (by omega) (by omega) (by omega) (by omega)
      exact ⟨e1, e2, e3, e4, e5, x0, by simp; omega, by simp; omega, by simp; omega, by simp; omega, by simp; omega⟩
    · obtain ⟨e1, e2, e3, e4, e5, x0, x1, x2, x3, x4, x5⟩ := ih z1 z2 (z3 + (y.lo + m)) z4 z5 (by omega) (by omega) (by omega) (by omega) (by omega)
      exact ⟨e1, e2, e3, e4, e5, x0, by simp; omega, by simp; omega, by simp; omega, by simp; omega, by simp; omega⟩
    · obtain ⟨e1, e2, e3, e4, e5, x0, x1, x2, x3, x4, x5⟩ := ih z1 z2 z3 (z4 + (y.lo + m)) z5 (by omega) (by omega) (by omega) (by omega) (by omega)
      exact ⟨e1, e2, e3, e4, e5, x0, by simp; omega, by simp; omega, by simp; omega, by simp; omega, by simp; omega⟩
    · obtain ⟨e1, e2, e3, e4, e5, x0, x1, x2, x3, x4, x5⟩ := ih z1 z2 z3 z4 (z5 + (y.lo + m)) (by omega) (by omega) (by omega) (by omega) (by omega)
      exact ⟨e1, e2, e3, e4, e5, x0, by simp; omega, by simp; omega, by simp; omega, by simp; omega, by simp; omega⟩
theorem sums_ok {v : Version} (hv : v.puts.all Put.ok = true) {p : List Int} (hp : p.length ≤ 17592186044416) {l : List Room} (h : roomsE l = 0) : ∃ s, F_r04_Sums v l p = some s ∧ ∀ k, k < 5 → litI v Room.lo (k + 1) l ≤ s k ∧ s k ≤ litI v Room.hi (k + 1) l := by
  obtain ⟨e1, e2, e3, e4, e5, x0, x1, x2, x3, x4, x5⟩ := sums_l1 hv hp l 0 0 0 0 0 0 0 (rooms_in h) (by have := rooms20 h; omega) (by omega) (by have := rooms20 h; omega) (by omega) (by omega) (by omega) (by omega) (by omega)
  have q := fun i => lit_eq (v := v) (i := i) h
  refine ⟨arr [e1, e2, e3, e4, e5] e1, by unfold F_r04_Sums; rw [x0]; rfl, fun k hk => ?_⟩
  rw [(q (k + 1)).1, (q (k + 1)).2]
  match k, hk with
  | 0, _ => show sumI (inG v Room.lo 1) l ≤ e1 ∧ e1 ≤ sumI (inG v Room.hi 1) l; omega
  | 1, _ => show sumI (inG v Room.lo 2) l ≤ e2 ∧ e2 ≤ sumI (inG v Room.hi 2) l; omega
  | 2, _ => show sumI (inG v Room.lo 3) l ≤ e3 ∧ e3 ≤ sumI (inG v Room.hi 3) l; omega
  | 3, _ => show sumI (inG v Room.lo 4) l ≤ e4 ∧ e4 ≤ sumI (inG v Room.hi 4) l; omega
  | 4, _ => show sumI (inG v Room.lo 5) l ≤ e5 ∧ e5 ≤ sumI (inG v Room.hi 5) l; omega
theorem compile_at {c : Code} {day : Int} {l : List Room} (h1 : c.err = 0) (hd : 0 ≤ day ∧ day ≤ 100000) (hr : roomsE l = 0) {n : Nat} {y : Version} (hn : forceI c day = n) (hy : c.vs[n]? = some y) : F_code_Compile c day l = some (planD y n l, 0) := by
  have hc : F_code_of c = some (T_question.mk c (Version.mk 0 [] (arr [[], [], [], [], [], [], [], [], [], []] [])) (-1) c.err) := rfl
  have hat : atI c.vs (forceI c day) = some y := by rw [hn, atI_nat, hy]
  have hp : ck (decide (l.length ≤ 20) && y.puts.all Put.ok) (some (planD y (forceI c day) l)) = some (planD y (forceI c day) l) := ckT (by rw [decide_eq_true (rooms20 hr), ver_puts (err_ver h1 hy)]; rfl)
  have hw : withE 0 l = 0 := by unfold withE; rw [hr]; rfl
  unfold F_code_Compile F_code_question_on
  rw [hc]
  simp only [Option.bind_some, fail_eq, by_eq, h1]
  rw [within_lit hd, decide_eq_false (p := forceI c day < 0) (by omega)]
  have hE : failE (byE (failE 0 (!true) 6) 0) false 45 = 0 := rfl
  rw [hE, hat]
  simp only [decide_true, cond_true, Option.bind_some]
  rw [with_eq]
  show cond (!decide (withE 0 l = 0)) _ (Option.bind (ck (decide (l.length ≤ 20) && y.puts.all Put.ok) (some (planD y (forceI c day) l))) _) = _
  rw [hp, hw, hn]; rfl
theorem judT_mid {v : Version} {f : Int} (hf : f = 0 ∨ f = 1) (hl : ∀ k, k < 10 → lineB (v.ln k) = true) {lo hi x : Nat → Int} (h0 : ∀ i, 0 ≤ lo i) (h4 : ∀ i, hi i ≤ 20000000000) (hx : ∀ k, k < 5 → lo (k + 1) ≤ x k ∧ x k ≤ hi (k + 1)) : judT Prod.fst v f lo hi ≤ downI (tonS closV v f.toNat (x 0) (x 1) (x 2) (x 3) (x 4)) ∧ downI (tonS closV v f.toNat (x 0) (x 1) (x 2) (x 3) (x 4)) ≤ judT Prod.snd v f lo hi := by
  have hk : f.toNat < 2 := by rcases hf with rfl | rfl <;> decide
  have le := fun (j : Nat) (hj : j < 5) => ext_mid (hl (5 * f.toNat + j) (by omega)) (h0 (j + 1)) (hx j hj) (h4 (j + 1))
  have bd := fun (j : Nat) (hj : j < 5) => line_bd (hl (5 * f.toNat + j) (by omega)) (h0 (j + 1)) (by have := hx j hj; omega) (h4 (j + 1))
  have bd2 := fun (j : Nat) (hj : j < 5) => closV_bd (hl (5 * f.toNat + j) (by omega)) (m := x j) (by have := hx j hj; have := h0 (j + 1); have := h4 (j + 1); omega)
  have l0 := le 0 (by decide)
  have l1 := le 1 (by decide)
  have l2 := le 2 (by decide)
  have l3 := le 3 (by decide)
  have l4 := le 4 (by decide)
  have b0 := bd 0 (by decide)
  have b1 := bd 1 (by decide)
  have b2 := bd 2 (by decide)
  have b3 := bd 3 (by decide)
  have b4 := bd 4 (by decide)
  have d0 := bd2 0 (by decide)
  have d1 := bd2 1 (by decide)
  have d2 := bd2 2 (by decide)
  have d3 := bd2 3 (by decide)
  have d4 := bd2 4 (by decide)
  clear le bd bd2 h0 h4 hl hx
  simp only [Nat.add_zero, Nat.zero_add, Nat.reduceAdd] at l0 l1 l2 l3 l4 b0 b1 b2 b3 b4 d0
  unfold judT judL
  simp only [Nat.sub_self, Nat.add_zero, Nat.reduceSub]
  rw [tonS_sum b0.1 b1.1 b2.1 b3.1 b4.1, tonS_sum d0 d1 d2 d3 d4, tonS_sum b0.2 b1.2 b2.2 b3.2 b4.2]
  exact ⟨downI_mono (by omega) (by omega) (by omega), downI_mono (by omega) (by omega) (by omega)⟩
theorem tonE_at {c : Code} {n : Nat} {y : Version} {f : Int} (h1 : c.err = 0) (hy : c.vs[n]? = some y) (hf : f = 0 ∨ f = 1) {x : Nat → Int} (hx : ∀ k, k < 5 → 0 ≤ x k ∧ x k ≤ 20000000000) : tonE c n f (x 0) (x 1) (x 2) (x 3) (x 4) = 0 ∧ tonR closV c n f (x 0) (x 1) (x 2) (x 3) (x 4) = downI (tonS closV y f.toNat (x 0) (x 1) (x 2) (x 3) (x 4)) := by
  have hn := (List.getElem?_eq_some_iff.1 hy).1
  have e : tonE c n f (x 0) (x 1) (x 2) (x 3) (x 4) = 0 := by
    unfold tonE byE atE okX
    rw [h1, within_lit (n := (n : Int)) (by omega), within_lit (hx 0 (by decide)), within_lit (hx 1 (by decide)), within_lit (hx 2 (by decide)), within_lit (hx 3 (by decide)), within_lit (hx 4 (by decide))]
    rcases hf with rfl | rfl <;> rfl
  refine ⟨e, ?_⟩
  unfold tonR
  rw [if_pos e, Int.toNat_natCast, List.getD_eq_getElem?_getD, hy]; rfl
end Go.Proofs.YtjflgemfeofciaaGreatDoor

/- Layer 4: CodeTonnages holds. -/
namespace Go.Proofs.YtjflgemfeofciaaGreatDoor
open Go Go.Ev
set_option linter.unusedVariables false
set_option linter.unusedSimpArgs false
/-- an end's litres. -/
theorem endD_in {c : Code} {day f : Int} {l : List Room} (h : endE c day f l = 0) : ∀ k, k < 5 → (litI (verF c day) Room.lo (k + 1) l ≤ (endD Prod.fst c day f l).Litres k ∧ (endD Prod.fst c day f l).Litres k ≤ litI (verF c day) Room.hi (k + 1) l) ∧ litI (verF c day) Room.lo (k + 1) l ≤ (endD Prod.snd c day f l).Litres k ∧ (endD Prod.snd c day f l).Litres k ≤ litI (verF c day) Room.hi (k + 1) l := by
  intro k hk
  have hz := endE_zero h
  have hl := lit_in (v := verF c day) (i := k + 1) (endE_rooms h)
  have hf : f.toNat < 2 := by rcases hz.f01 with rfl | rfl <;> decide
  unfold endD
  rw [if_pos h, if_pos h]
  exact ⟨ext_in (hz.lines (5 * f.toNat + (k + 1 - 1)) (by omega)) hl.1 hl.2.1 false, ext_in (hz.lines (5 * f.toNat + (k + 1 - 1)) (by omega)) hl.1 hl.2.1 true⟩
theorem endD_ton {c : Code} {day f : Int} {l : List Room} (h : endE c day f l = 0) (sel : Int × Int → Int) : downI (tonS closV (verF c day) f.toNat ((endD sel c day f l).Litres 0) ((endD sel c day f l).Litres 1) ((endD sel c day f l).Litres 2) ((endD sel c day f l).Litres 3) ((endD sel c day f l).Litres 4)) = (endD sel c day f l).Tonnage := by
  unfold endD
  rw [if_pos h]; rfl
theorem ends_told {c : Code} {day f : Int} {l : List Room} (h : endE c day f l = 0) : F_code_CheckEnds c day f l (arr [endD Prod.fst c day f l, endD Prod.snd c day f l] (endD Prod.fst c day f l)) = some 0 := by
  have hi := endD_in h
  have t1 := endD_ton h Prod.fst
  have t2 := endD_ton h Prod.snd
  have hT : ∀ sel, (endD sel c day f l).Tonnage = judT sel (verF c day) f (fun i => litI (verF c day) Room.lo i l) (fun i => litI (verF c day) Room.hi i l) := fun sel => by unfold endD; rw [if_pos h]
  show some (chkE c day f l (endD Prod.fst c day f l).Tonnage ((endD Prod.fst c day f l).Litres 0) ((endD Prod.fst c day f l).Litres 1) ((endD Prod.fst c day f l).Litres 2) ((endD Prod.fst c day f l).Litres 3) ((endD Prod.fst c day f l).Litres 4) (endD Prod.snd c day f l).Tonnage ((endD Prod.snd c day f l).Litres 0) ((endD Prod.snd c day f l).Litres 1) ((endD Prod.snd c day f l).Litres 2) ((endD Prod.snd c day f l).Litres 3) ((endD Prod.snd c day f l).Litres 4)) = some 0
  unfold chkE chkV goodE
  rw [if_pos h, t1, t2, ← hT, ← hT]
  have w1 := fun k hk => within_lit (hi k hk).1
  have w2 := fun k hk => within_lit (hi k hk).2
  rw [w1 0 (by decide), w1 1 (by decide), w1 2 (by decide), w1 3 (by decide), w1 4 (by decide), w2 0 (by decide), w2 1 (by decide), w2 2 (by decide), w2 3 (by decide), w2 4 (by decide), decide_eq_true rfl, decide_eq_true rfl]
  rfl
theorem codeTonnages_true (l : List T_Raw) (x : T_Some) (p : List Int) (hp : p.length ≤ 17592186044416) : F_l04_CodeTonnages l x p = some true := by
  obtain ⟨c, q, hw, h⟩ := world_ok l x
  obtain ⟨n, y, hn, hy, hle, hin⟩ := force_in h
  have hd := h.day
  have hvl := h.vs.len
  have hnl := (List.getElem?_eq_some_iff.1 hy).1
  obtain ⟨he, hv⟩ := end_at h.err h.f01 h.rooms hy (by omega) hn
  have hz := endE_zero he
  have hyo := err_ver h.err hy
  obtain ⟨s, hs, hsb⟩ := sums_ok (ver_puts hyo) hp h.rooms
  have hcp := compile_at h.err (day := q.Day) (by omega) h.rooms hn hy
  have hlb : ∀ i, 0 ≤ litI y Room.lo i q.Rooms ∧ litI y Room.lo i q.Rooms ≤ litI y Room.hi i q.Rooms ∧ litI y Room.hi i q.Rooms ≤ 20000000000 := fun i => lit_in h.rooms
  have hei := endD_in he
  rw [hv] at hei
  obtain ⟨ts, tv⟩ := tonE_at h.err hy hz.f01 (x := s) fun k hk => by have := hsb k hk; have := hlb (k + 1); omega
  obtain ⟨u1, v1⟩ := tonE_at h.err hy hz.f01 (x := (endD Prod.fst c q.Day q.Formula q.Rooms).Litres) fun k hk => by have := hei k hk; have := hlb (k + 1); omega
  obtain ⟨u2, v2⟩ := tonE_at h.err hy hz.f01 (x := (endD Prod.snd c q.Day q.Formula q.Rooms).Litres) fun k hk => by have := hei k hk; have := hlb (k + 1); omega
  have t1 := endD_ton he Prod.fst
  have t2 := endD_ton he Prod.snd
  rw [hv] at t1 t2
  rw [t1] at v1
  rw [t2] at v2
  have hm := judT_mid (v := y) hz.f01 (fun k hk => ver_lines hyo k hk) (fun i => (hlb i).1) (fun i => (hlb i).2.2) hsb
  rw [← tv] at hm
  have hT : ∀ sel, (endD sel c q.Day q.Formula q.Rooms).Tonnage = judT sel y q.Formula (fun i => litI y Room.lo i q.Rooms) (fun i => litI y Room.hi i q.Rooms) := fun sel => by unfold endD; rw [if_pos he, hv]
  rw [← hT, ← hT] at hm
  have hc := ids_count (ver_puts hyo) q.Rooms
  have hr20 := rooms20 h.rooms
  have s0 := hsb 0 (by decide)
  have s1 := hsb 1 (by decide)
  have s2 := hsb 2 (by decide)
  have s3 := hsb 3 (by decide)
  have s4 := hsb 4 (by decide)
  have z0 := hei 0 (by decide)
  have z1 := hei 1 (by decide)
  have z2 := hei 2 (by decide)
  have z3 := hei 3 (by decide)
  have z4 := hei 4 (by decide)
  have r : ∀ k : Nat, ((planD y n q.Rooms).Shares k).Litres = (litI y Room.lo (k + 1) q.Rooms, litI y Room.hi (k + 1) q.Rooms) ∧ ((planD y n q.Rooms).Shares k).Rooms = idsI y (k + 1) q.Rooms := fun k => ⟨rfl, rfl⟩
  have rx : (planD y n q.Rooms).Exempt = idsI y 0 q.Rooms := rfl
  simp only [Nat.zero_add, Nat.reduceAdd] at s0 s1 s2 s3 s4 z0 z1 z2 z3 z4
  unfold F_l04_CodeTonnages
  rw [hw]
  simp only [Option.bind_some, hin, judge_code]
  show Option.bind (some (endD Prod.fst c q.Day q.Formula q.Rooms, endD Prod.snd c q.Day q.Formula q.Rooms, endE c q.Day q.Formula q.Rooms)) _ = _
  rw [hcp]
  simp only [Option.bind_some, atI_nat, hy, hs, he, ends_told he, ts, u1, u2, v1, v2, (r _).1, (r _).2, rx, Nat.zero_add, Nat.reduceAdd]
  have e : ∀ a : Int, 0 ≤ a ∧ a ≤ 1000 → wr a = a := fun a ha => wr_id (by omega)
  rw [e (((idsI y 0 q.Rooms).length : Int) + ((idsI y 1 q.Rooms).length : Int)) (by omega)]
  rw [e (((idsI y 0 q.Rooms).length : Int) + ((idsI y 1 q.Rooms).length : Int) + ((idsI y 2 q.Rooms).length : Int)) (by omega)]
  rw [e (((idsI y 0 q.Rooms).length : Int) + ((idsI y 1 q.Rooms).length : Int) + ((idsI y 2 q.Rooms).length : Int) + ((idsI y 3 q.Rooms).length : Int)) (by omega)]
  rw [e (((idsI y 0 q.Rooms).length : Int) + ((idsI y 1 q.Rooms).length : Int) + ((idsI y 2 q.Rooms).length : Int) + ((idsI y 3 q.Rooms).length : Int) + ((idsI y 4 q.Rooms).length : Int)) (by omega)]
  rw [e (((idsI y 0 q.Rooms).length : Int) + ((idsI y 1 q.Rooms).length : Int) + ((idsI y 2 q.Rooms).length : Int) + ((idsI y 3 q.Rooms).length : Int) + ((idsI y 4 q.Rooms).length : Int) + ((idsI y 5 q.Rooms).length : Int)) (by omega)]
  refine cnN trivial (cnN trivial (cnN trivial (cnN trivial (cnF (by omega) (cnF (by omega) ?_)))))
  have j1 : (judC c q.Day q.Formula q.Rooms).1 = (endD Prod.fst c q.Day q.Formula q.Rooms).Tonnage := rfl
  have j2 : (judC c q.Day q.Formula q.Rooms).2 = (endD Prod.snd c q.Day q.Formula q.Rooms).Tonnage := rfl
  refine cnN trivial (cnF (by omega) (cnF (by omega) (cnN rfl (cnN rfl (cnN trivial ?_)))))
  iterate 30 refine cnF (by omega) ?_
  exact cnT trivial (cnT trivial (cnT rfl (cnT rfl (cnT (by omega) rfl))))
end Go.Proofs.YtjflgemfeofciaaGreatDoor
