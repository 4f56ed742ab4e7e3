import Derived.Test.YtjflgemfeofciaaGreatDoorRs4
import Derived.Test.YtjflgemfeofciaaGreatDoorWm4
import Derived.Test.YtjflgemfeofciaaGreatDoorPv4
import Derived.Test.YtjflgemfeofciaaGreatDoorMY2
/- Layer 4: the walk of CodeForce. -/
namespace Go.Proofs.YtjflgemfeofciaaGreatDoor
open Go Go.Ev
set_option linter.unusedVariables false
set_option linter.unusedSimpArgs false
set_option maxRecDepth 10000
structure L_l04_CodeForce_1 where
  k1_1 : Nat
  k1_2 : Nat
def F_l04_CodeForce_l1 (q3 : Code × T_Ask) (q21 : (List Int) × Int) : List Version → Nat → Nat → Option ((Bool) ⊕ (Nat))
  | [], k1_1, k1_2 => some ((Sum.inr k1_1))
  | y1 :: ys1, k1_1, k1_2 => ((F_code_Judge q3.1 (wr (y1.fr - 1)) q3.2.Formula q3.2.Rooms).bind fun q33 => ((F_code_Judge q3.1 y1.fr q3.2.Formula q3.2.Rooms).bind fun q36 => (cond (!(decide (q33.2 = 0))) (some ((Sum.inl false))) ((cond (!(decide (q36.2 = 0))) (some ((Sum.inl false))) ((cond (!((decide (q33.1.1 = q36.1.1)) && ((decide (q33.1.2 = q36.1.2)) && true))) ((cond (decide ((q21.1.length : Int) ≤ (k1_1 : Int))) (some ((Sum.inl false))) (((q21.1[k1_1]?).bind fun y42 => (cond (!(decide (y42 = y1.fr))) (some ((Sum.inl false))) (F_l04_CodeForce_l1 q3 q21 ys1 (k1_1 + 1) (k1_2 + 1))))))) (F_l04_CodeForce_l1 q3 q21 ys1 k1_1 (k1_2 + 1)))))))))
structure L_l04_CodeForce_2 where
  k2_1 : Nat
  k2_2 : Nat
def F_l04_CodeForce_l2 (q3 : Code × T_Ask) (q21 : (List Int) × Int) : List Version → Nat → Nat → Option ((Bool) ⊕ (Nat))
  | [], k2_1, k2_2 => some ((Sum.inr k2_1))
  | y2 :: ys2, k2_1, k2_2 => ((F_code_Judge q3.1 (wr (y2.fr - 1)) q3.2.Formula q3.2.Rooms).bind fun q49 => ((F_code_Judge q3.1 y2.fr q3.2.Formula q3.2.Rooms).bind fun q52 => (cond (!(decide (q49.2 = 0))) (some ((Sum.inl false))) ((cond (!(decide (q52.2 = 0))) (some ((Sum.inl false))) ((cond (!((decide (q49.1.1 = q52.1.1)) && ((decide (q49.1.2 = q52.1.2)) && true))) ((cond (decide ((q21.1.length : Int) ≤ (k2_1 : Int))) (some ((Sum.inl false))) (((q21.1[k2_1]?).bind fun y58 => (cond (!(decide (y58 = y2.fr))) (some ((Sum.inl false))) (F_l04_CodeForce_l2 q3 q21 ys2 (k2_1 + 1) (k2_2 + 1))))))) (F_l04_CodeForce_l2 q3 q21 ys2 k2_1 (k2_2 + 1)))))))))
def F_l04_CodeForce (p0 : (List T_Raw)) (p1 : T_Some) (p2 : T_Raw) : Option (Bool) := ((F_l04_world p0 p1).bind fun q3 => ((F_code_InForce q3.1 q3.2.Day).bind fun q6 => ((F_code_Judge q3.1 q3.2.Day q3.2.Formula q3.2.Rooms).bind fun q7 => (cond (!(decide (q6.2 = 0))) (some false) ((cond (!(decide (q7.2 = 0))) (some false) ((cond (decide (q6.1 < 0)) (some false) ((cond (decide ((q3.1.vs.length : Int) ≤ q6.1)) (some false) (((atI q3.1.vs q6.1).bind fun y13 => ((F_code_Judge q3.1 y13.fr q3.2.Formula q3.2.Rooms).bind fun q14 => ((atI q3.1.vs ((q3.1.vs.length : Int) - 1)).bind fun y16 => ((F_r04_Version p2 y16.fr).bind fun q17 => ((F_code_Amend q3.1 q17).bind fun q19 => ((F_code_Days q3.1 q3.2.Formula q3.2.Rooms).bind fun q21 => (cond (!(decide (q14.2 = 0))) (some false) ((cond (!(decide (q19.2 = 0))) (some false) ((cond (!(decide (q21.2 = 0))) (some false) ((cond (!((decide (q7.1.1 = q14.1.1)) && ((decide (q7.1.2 = q14.1.2)) && true))) (some false) ((cond (decide (q3.2.Day < q17.fr)) (((F_code_Judge q19.1 q3.2.Day q3.2.Formula q3.2.Rooms).bind fun q27 => (cond (!(decide (q27.2 = 0))) (some false) ((cond (!((decide (q27.1.1 = q7.1.1)) && ((decide (q27.1.2 = q7.1.2)) && true))) (some false) (((F_l04_CodeForce_l1 q3 q21 (List.drop 1 q3.1.vs) 0 1).bind fun o => match o with | (Sum.inl q) => (some q) | (Sum.inr o1_1_1) => ((cond (decide ((o1_1_1 : Int) = (q21.1.length : Int))) (some true) (some false)))))))))) (((F_l04_CodeForce_l2 q3 q21 (List.drop 1 q3.1.vs) 0 1).bind fun o => match o with | (Sum.inl q) => (some q) | (Sum.inr o2_1_1) => ((cond (decide ((o2_1_1 : Int) = (q21.1.length : Int))) (some true) (some false)))))))))))))))))))))))))))))))
set_option maxHeartbeats 1000000 in
theorem F_l04_CodeForce_ok (p0 : (List T_Raw)) (p1 : T_Some) (p2 : T_Raw) (v0_0 : V) (cs1 cs2 : List V) (g : G) (h0_0 : RS R_Raw 3 g v0_0 p0) (h1 : R_Some g cs1 p1) (h2 : R_Raw g cs2 p2) (r : Bool) (hF : F_l04_CodeForce p0 p1 p2 = some r) : Fv Tryz.prog natS (.f 11 [] []) [v0_0, .agg cs1, .agg cs2] g (.b r) := by
  refine Fw.fv ?_
  unfold F_l04_CodeForce at hF
  have lh0_0 := h0_0.1
  obtain ⟨v2_q1, rfl, h2_q1⟩ := h1
  have lh1_2 := h2_q1.1
  obtain ⟨v1_q2, v2_q2, rfl, h1_q2, h2_q2⟩ := h2
  have lh2_1 := h1_q2.1
  have lh2_2 := h2_q2.1
  refine Fw.enter (N := 221) (al := [(2, _), (1, _), (0, _)]) Tryz.func11 (by kernel_rfl) (by kernel_rfl) rfl rfl rfl rfl ?_
  intro B
  refine .seq <| .region rfl <| .box .no rfl rfl rfl rfl fun b1 => .box .no rfl rfl rfl rfl fun b2 => .z rfl rfl <| .nil <| sq_n <| .seq <| .region rfl <| .m rfl rfl <| .ld .no rfl (.a (vs := [_, _, _]) rfl (.tl .hd) a_75 s_75 rfl rfl) ?_
  obtain ⟨q3, hq3, hF⟩ := bS hF
  refine .call .no rfl rfl rfl (F_l04_world_ok p0 p1 _ _ _ h0_0 ⟨_, rfl, h2_q1⟩ _ hq3) ?_
  rintro g3 ml3 r3 hle3 ⟨rfl, cs3_0, cs3_1, rfl, ⟨v3_0, rfl, hc3_0⟩, ⟨v2_3_1, rfl, h2_3_1⟩⟩
  replace h1_q2 := h1_q2.mono Arr4R.mono hle3
  replace h2_q2 := h2_q2.mono Arr5R.mono hle3
  have lh3_0_1 := hc3_0.1
  have lh3_1_2 := h2_3_1.1
  refine .m rfl rfl <| .p .no rfl (.ext rfl rfl) <| .p .no rfl (.ext rfl rfl) <| .alloc .no rfl z_24 fun b4 => .alloc .no rfl z_37 fun b5 => .st (cs' := [_, _]) .no rfl rfl rfl rfl s_24 rfl rfl (.tl .hd) rfl (allOne_cons rfl (allOne_cons hc3_0.one rfl)) <| .st (cs' := [_, _, _]) .no rfl rfl rfl rfl s_37 rfl rfl .hd rfl (allOne_cons rfl (allOne_cons rfl (allOne_cons h2_3_1.one rfl))) <| .nil <| sq_n <| .seq <| .region rfl <| .ld .no rfl (.a (vs := [_, _]) rfl (.tl .hd) a_24 s_24 rfl rfl) <| .p .no rfl (.fa rfl f_37_0) <| .ld .no rfl (.s rfl .hd a_3 rfl) ?_
  obtain ⟨q6, hq6, hF⟩ := bS hF
  refine .callV .no rfl rfl rfl (F_code_InForce_ok q3.1 q3.2.Day _ _ ⟨_, rfl, hc3_0⟩ _ hq6) <| .m rfl rfl <| .p .no rfl (.ext rfl rfl) <| .p .no rfl (.ext rfl rfl) <| .z rfl rfl <| .z rfl rfl <| .nil <| sq_n <| .seq <| .region rfl <| .ld .no rfl (.a (vs := [_, _]) rfl (.tl .hd) a_24 s_24 rfl rfl) <| .p .no rfl (.fa rfl f_37_0) <| .ld .no rfl (.s rfl .hd a_3 rfl) <| .p .no rfl (.fa rfl f_37_1) <| .ld .no rfl (.s rfl .hd a_3 rfl) <| .p .no rfl (.fa rfl f_37_2) <| .ld .no rfl (.s rfl .hd a_25 rfl) ?_
  obtain ⟨q7, hq7, hF⟩ := bS hF
  refine .callV .no rfl rfl rfl (F_code_Judge_ok q3.1 q3.2.Day q3.2.Formula q3.2.Rooms _ _ _ ⟨_, rfl, hc3_0⟩ h2_3_1 _ hq7) <| .m rfl rfl <| .p .no rfl (.ext rfl rfl) <| .p .no rfl (.ext rfl rfl) <| .alloc .no rfl z_27 fun b8 => .st (cs' := [_, _]) .no rfl rfl rfl rfl s_27 rfl rfl .hd rfl rfl <| .z rfl rfl <| .nil <| sq_n <| .seq <| .seq <| .region rfl <| .m rfl rfl <| .b rfl rfl rfl rfl <| .m rfl rfl <| .split (t := 54) rfl (fun h9 => ?_) (fun h9 => ?_)
  ·have kh9 := dF (nT h9)
   have hF := cT h9 hF
   refine .skip (.yes rfl rfl h9) rfl <| .skip (.yes rfl rfl h9) rfl <| .p .no rfl (.pickT rfl h9 rfl) <| .m rfl rfl <| .skip (.yes rfl rfl rfl) rfl <| .skip (.yes rfl rfl rfl) rfl <| .p .no rfl (.pickT rfl rfl rfl) <| .m rfl rfl <| .skip (.yes rfl rfl rfl) rfl <| .skip (.yes rfl rfl rfl) rfl <| .skip (.yes rfl rfl rfl) rfl <| .skip (.yes rfl rfl rfl) rfl <| .skip (.yes rfl rfl rfl) rfl <| .p .no rfl (.pickT rfl rfl rfl) <| .nil <| sq_n <| .condT rfl rfl <| .seq <| .region rfl <| .z rfl rfl <| .nil <| sq_n <| .ret <| sq_r ?_
   obtain rfl := sI hF
   refine retQ_r hle3 (.tmp rfl .nil) rfl ?_
   rfl
  ·have kh9 := dT (nF h9)
   have hF := cF h9 hF
   refine .p (.yes rfl rfl h9) rfl (.move rfl) <| .p (.yes rfl rfl h9) rfl (.bin rfl rfl rfl) <| .p .no rfl (.pickF rfl h9 rfl) <| .m rfl rfl <| .split (t := 58) rfl (fun h10 => ?_) (fun h10 => ?_)
   ·have kh10 := dF (nT h10)
    have hF := cT h10 hF
    refine .skip (.yes rfl rfl h10) rfl <| .skip (.yes rfl rfl h10) rfl <| .p .no rfl (.pickT rfl h10 rfl) <| .m rfl rfl <| .skip (.yes rfl rfl rfl) rfl <| .skip (.yes rfl rfl rfl) rfl <| .skip (.yes rfl rfl rfl) rfl <| .skip (.yes rfl rfl rfl) rfl <| .skip (.yes rfl rfl rfl) rfl <| .p .no rfl (.pickT rfl rfl rfl) <| .nil <| sq_n <| .condT rfl rfl <| .seq <| .region rfl <| .z rfl rfl <| .nil <| sq_n <| .ret <| sq_r ?_
    obtain rfl := sI hF
    refine retQ_r hle3 (.tmp rfl .nil) rfl ?_
    rfl
   ·have kh10 := dT (nF h10)
    have hF := cF h10 hF
    refine .p (.yes rfl rfl h10) rfl (.move rfl) <| .p (.yes rfl rfl h10) rfl (.bin rfl rfl rfl) <| .p .no rfl (.pickF rfl h10 rfl) <| .m rfl rfl <| .split (t := 62) rfl (fun h11 => ?_) (fun h11 => ?_)
    ·have kh11 := dT h11
     have hF := cT h11 hF
     refine .skip (.yes rfl rfl h11) rfl <| .skip (.yes rfl rfl h11) rfl <| .skip (.yes rfl rfl h11) rfl <| .skip (.yes rfl rfl h11) rfl <| .skip (.yes rfl rfl h11) rfl <| .p .no rfl (.pickT rfl h11 rfl) <| .nil <| sq_n <| .condT rfl rfl <| .seq <| .region rfl <| .z rfl rfl <| .nil <| sq_n <| .ret <| sq_r ?_
     obtain rfl := sI hF
     refine retQ_r hle3 (.tmp rfl .nil) rfl ?_
     rfl
    ·have kh11 := dF h11
     have hF := cF h11 hF
     refine .p (.yes rfl rfl h11) rfl (.move rfl) <| .p (.yes rfl rfl h11) rfl (.fa rfl f_24_1) <| .ld (.yes rfl rfl h11) rfl (.s rfl (.tl (.tl .hd)) a_22 rfl) <| .p (.yes rfl rfl h11) rfl (.lenR rfl rfl rfl e_22 hc3_0) <| .p (.yes rfl rfl h11) rfl (.bin rfl rfl rfl) <| .p .no rfl (.pickF rfl h11 rfl) <| .nil <| sq_n <| .cond rfl (fun h12 => ?_) (fun h12 => ?_)
     ·have kh12 := dT h12
      have hF := cT h12 hF
      refine .seq <| .region rfl <| .z rfl rfl <| .nil <| sq_n <| .ret <| sq_r ?_
      obtain rfl := sI hF
      refine retQ_r hle3 (.tmp rfl .nil) rfl ?_
      rfl
     ·have kh12 := dF h12
      have hF := cF h12 hF
      refine .skip <| sq_n <| .seq <| .draw (tb := [r0 0 0, r0 0 0, r0 2 0, r0 0 0, r0 14 0, r0 30 0, r0 62 0, r0 0 0, r0 128 0, r0 0 0, r0 512 0, r1 2047 0, r1 4095 1, r1 8191 1, r1 8191 1, r0 0 0, r1 49151 1, r1 131071 2]) rfl (by kernel_rfl) (by kernel_rfl) ?_
      refine .y rfl rfl rfl (.a (vs := [_, _]) rfl (.tl (.tl .hd)) a_24 s_24 rfl rfl) <| .p .no rfl (.fa rfl f_24_1) rfl rfl rfl <| .y rfl rfl rfl (.s rfl (.tl (.tl .hd)) a_22 rfl) <| .m rfl rfl ?_
      obtain ⟨y13, hy13, hF⟩ := bS hF
      have hj13 := atI_lt hy13
      refine .ixl .no rfl rfl hc3_0 rfl e_22 hy13 ?_
      rintro b13 o13 _ hq13 ⟨p13, lv13, rfl, hp13, hl13⟩
      have lh13_1 := hp13.1
      have lh13_2 := (hl13 0 (by decide)).1
      have lh13_3 := (hl13 1 (by decide)).1
      have lh13_4 := (hl13 2 (by decide)).1
      have lh13_5 := (hl13 3 (by decide)).1
      have lh13_6 := (hl13 4 (by decide)).1
      have lh13_7 := (hl13 5 (by decide)).1
      have lh13_8 := (hl13 6 (by decide)).1
      have lh13_9 := (hl13 7 (by decide)).1
      have lh13_10 := (hl13 8 (by decide)).1
      have lh13_11 := (hl13 9 (by decide)).1
      refine .p .no rfl (.fa rfl f_97_0) rfl rfl rfl <| .y rfl rfl rfl (.ps 0 rfl hq13 rfl a_3 rfl) <| .p .no rfl (.fa rfl f_37_1) rfl rfl rfl <| .y rfl rfl rfl (.s rfl (.tl .hd) a_3 rfl) <| .p .no rfl (.fa rfl f_37_2) rfl rfl rfl <| .y rfl rfl rfl (.s rfl (.tl .hd) a_25 rfl) ?_
      obtain ⟨q14, hq14, hF⟩ := bS hF
      refine .callV .no rfl rfl rfl rfl rfl (F_code_Judge_ok q3.1 y13.fr q3.2.Formula q3.2.Rooms _ _ _ ⟨_, rfl, hc3_0⟩ h2_3_1 _ hq14) <| .m rfl rfl <| .p .no rfl (.ext rfl rfl) rfl rfl rfl <| .p .no rfl (.ext rfl rfl) rfl rfl rfl <| .f .no rfl (.alloc z_27) fun b15 => .st (cs' := [_, _]) .no (pinF_t rfl pinF_n) (restA_t rfl restA_n) rfl rfl rfl rfl s_27 rfl rfl .hd rfl rfl (.all (allA_c rfl (allA_c rfl (allA_c rfl (allA_c rfl (allA_c rfl rfl)))))) <| .z rfl rfl <| .nil <| sq_n <| .seq <| .draw (tb := [r0 0 0, r0 0 0, r0 2 0, r0 0 0, r0 8 0, r0 24 0, r0 56 0, r0 126 0, r0 254 0, r0 510 0, r1 1023 0, r0 0 0, r1 4095 1]) rfl (by kernel_rfl) (by kernel_rfl) ?_
      refine .y rfl rfl rfl (.a (vs := [_, _, _]) rfl (.tl (.tl (.tl (.tl .hd)))) a_105 s_105 rfl rfl) <| .p .no rfl (.fa rfl f_24_1) rfl rfl rfl <| .y rfl rfl rfl (.s rfl (.tl (.tl (.tl .hd))) a_22 rfl) <| .p .no rfl (.fa rfl f_24_1) rfl rfl rfl <| .y rfl rfl rfl (.s rfl (.tl (.tl (.tl .hd))) a_22 rfl) <| .p .no rfl (.lenR rfl rfl rfl e_22 hc3_0) rfl rfl rfl <| .p .no rfl (.sub rfl rfl (by omega)) rfl rfl rfl ?_
      obtain ⟨y16, hy16, hF⟩ := bS hF
      have hj16 := atI_lt hy16
      refine .ixl .no rfl rfl hc3_0 rfl e_22 hy16 ?_
      rintro b16 o16 _ hq16 ⟨p16, lv16, rfl, hp16, hl16⟩
      have lh16_1 := hp16.1
      have lh16_2 := (hl16 0 (by decide)).1
      have lh16_3 := (hl16 1 (by decide)).1
      have lh16_4 := (hl16 2 (by decide)).1
      have lh16_5 := (hl16 3 (by decide)).1
      have lh16_6 := (hl16 4 (by decide)).1
      have lh16_7 := (hl16 5 (by decide)).1
      have lh16_8 := (hl16 6 (by decide)).1
      have lh16_9 := (hl16 7 (by decide)).1
      have lh16_10 := (hl16 8 (by decide)).1
      have lh16_11 := (hl16 9 (by decide)).1
      refine .p .no rfl (.fa rfl f_97_0) rfl rfl rfl <| .y rfl rfl rfl (.ps 0 rfl hq16 rfl a_3 rfl) ?_
      obtain ⟨q17, hq17, hF⟩ := bS hF
      refine .call .no rfl rfl rfl rfl rfl (F_r04_Version_ok p2 y16.fr _ _ ⟨_, _, rfl, h1_q2, h2_q2⟩ _ hq17) ?_
      rintro g17 ml17 r17 hle17 ⟨rfl, cs17_0, rfl, ⟨p17_0, lv17_0, rfl, hp17_0, hl17_0⟩⟩
      replace hc3_0 := hc3_0.mono VersionR.mono hle17
      replace h2_3_1 := h2_3_1.mono RoomR.mono hle17
      have lh17_0_1 := hp17_0.1
      have lh17_0_2 := (hl17_0 0 (by decide)).1
      have lh17_0_3 := (hl17_0 1 (by decide)).1
      have lh17_0_4 := (hl17_0 2 (by decide)).1
      have lh17_0_5 := (hl17_0 3 (by decide)).1
      have lh17_0_6 := (hl17_0 4 (by decide)).1
      have lh17_0_7 := (hl17_0 5 (by decide)).1
      have lh17_0_8 := (hl17_0 6 (by decide)).1
      have lh17_0_9 := (hl17_0 7 (by decide)).1
      have lh17_0_10 := (hl17_0 8 (by decide)).1
      have lh17_0_11 := (hl17_0 9 (by decide)).1
      refine .f .no rfl (.alloc z_97) fun b18 => .st (cs' := [_, _, _, _, _, _, _, _, _, _, _, _]) .no (pinF_t rfl pinF_n) (restA_t rfl restA_n) rfl rfl rfl rfl s_97 rfl rfl .hd rfl (allOne_cons rfl (allOne_cons hp17_0.one (allOne_cons (hl17_0 0 (by decide)).one (allOne_cons (hl17_0 1 (by decide)).one (allOne_cons (hl17_0 2 (by decide)).one (allOne_cons (hl17_0 3 (by decide)).one (allOne_cons (hl17_0 4 (by decide)).one (allOne_cons (hl17_0 5 (by decide)).one (allOne_cons (hl17_0 6 (by decide)).one (allOne_cons (hl17_0 7 (by decide)).one (allOne_cons (hl17_0 8 (by decide)).one (allOne_cons (hl17_0 9 (by decide)).one rfl)))))))))))) (.all (allA_c rfl (allA_c rfl (allA_c rfl (allA_c rfl rfl))))) <| .nil <| sq_n <| .seq <| .region rfl <| .ld .no rfl (.a (vs := [_, _]) rfl (.tl (.tl (.tl (.tl .hd)))) a_24 s_24 rfl rfl) <| .ld .no rfl (.a (vs := [_, _, _, _, _, _, _, _, _, _, _, _]) rfl .hd a_97 s_97 rfl rfl) ?_
      obtain ⟨q19, hq19, hF⟩ := bS hF
      refine .call .no rfl rfl rfl (F_code_Amend_ok q3.1 q17 _ _ _ ⟨_, rfl, hc3_0⟩ ⟨_, _, rfl, hp17_0, hl17_0⟩ _ hq19) ?_
      rintro g19 ml19 r19 hle19 ⟨rfl, cs19_0, rfl, ⟨v19_0, rfl, hc19_0⟩⟩
      replace hc3_0 := hc3_0.mono VersionR.mono hle19
      replace h2_3_1 := h2_3_1.mono RoomR.mono hle19
      have lh19_0_1 := hc19_0.1
      refine .m rfl rfl <| .p .no rfl (.ext rfl rfl) <| .p .no rfl (.ext rfl rfl) <| .alloc .no rfl z_24 fun b20 => .st (cs' := [_, _]) .no rfl rfl rfl rfl s_24 rfl rfl .hd rfl (allOne_cons rfl (allOne_cons hc19_0.one rfl)) <| .z rfl rfl <| .nil <| sq_n <| .seq <| .region rfl <| .ld .no rfl (.a (vs := [_, _]) rfl (.tl (.tl (.tl (.tl (.tl .hd))))) a_24 s_24 rfl rfl) <| .p .no rfl (.fa rfl f_37_1) <| .ld .no rfl (.s rfl (.tl (.tl (.tl (.tl .hd)))) a_3 rfl) <| .p .no rfl (.fa rfl f_37_2) <| .ld .no rfl (.s rfl (.tl (.tl (.tl (.tl .hd)))) a_25 rfl) ?_
      obtain ⟨q21, hq21, hF⟩ := bS hF
      refine .call .no rfl rfl rfl (F_code_Days_ok q3.1 q3.2.Formula q3.2.Rooms _ _ _ ⟨_, rfl, hc3_0⟩ h2_3_1 _ hq21) ?_
      rintro g21 ml21 r21 hle21 ⟨rfl, w21_0_0, rfl, hw21_0_0⟩
      replace hc3_0 := hc3_0.mono VersionR.mono hle21
      replace h2_3_1 := h2_3_1.mono RoomR.mono hle21
      replace hc19_0 := hc19_0.mono VersionR.mono hle21
      have lhw21_0_0 := hw21_0_0.1
      refine .m rfl rfl <| .p .no rfl (.ext rfl rfl) <| .p .no rfl (.ext rfl rfl) <| .z rfl rfl <| .z rfl rfl <| .nil <| sq_n <| .seq <| .seq <| .region rfl <| .m rfl rfl <| .b rfl rfl rfl rfl <| .m rfl rfl <| .split (t := 112) rfl (fun h22 => ?_) (fun h22 => ?_)
      ·have kh22 := dF (nT h22)
       have hF := cT h22 hF
       refine .skip (.yes rfl rfl h22) rfl <| .skip (.yes rfl rfl h22) rfl <| .p .no rfl (.pickT rfl h22 rfl) <| .m rfl rfl <| .skip (.yes rfl rfl rfl) rfl <| .skip (.yes rfl rfl rfl) rfl <| .p .no rfl (.pickT rfl rfl rfl) <| .m rfl rfl <| .skip (.yes rfl rfl rfl) rfl <| .skip (.yes rfl rfl rfl) rfl <| .skip (.yes rfl rfl rfl) rfl <| .p .no rfl (.pickT rfl rfl rfl) <| .nil <| sq_n <| .condT rfl rfl <| .seq <| .region rfl <| .z rfl rfl <| .nil <| sq_n <| .ret <| sq_r ?_
       obtain rfl := sI hF
       refine retQ_r (((hle3.trans hle17).trans hle19).trans hle21) (.tmp rfl .nil) rfl ?_
       rfl
      ·have kh22 := dT (nF h22)
       have hF := cF h22 hF
       refine .p (.yes rfl rfl h22) rfl (.move rfl) <| .p (.yes rfl rfl h22) rfl (.bin rfl rfl rfl) <| .p .no rfl (.pickF rfl h22 rfl) <| .m rfl rfl <| .split (t := 116) rfl (fun h23 => ?_) (fun h23 => ?_)
       ·have kh23 := dF (nT h23)
        have hF := cT h23 hF
        refine .skip (.yes rfl rfl h23) rfl <| .skip (.yes rfl rfl h23) rfl <| .p .no rfl (.pickT rfl h23 rfl) <| .m rfl rfl <| .skip (.yes rfl rfl rfl) rfl <| .skip (.yes rfl rfl rfl) rfl <| .skip (.yes rfl rfl rfl) rfl <| .p .no rfl (.pickT rfl rfl rfl) <| .nil <| sq_n <| .condT rfl rfl <| .seq <| .region rfl <| .z rfl rfl <| .nil <| sq_n <| .ret <| sq_r ?_
        obtain rfl := sI hF
        refine retQ_r (((hle3.trans hle17).trans hle19).trans hle21) (.tmp rfl .nil) rfl ?_
        rfl
       ·have kh23 := dT (nF h23)
        have hF := cF h23 hF
        refine .p (.yes rfl rfl h23) rfl (.move rfl) <| .p (.yes rfl rfl h23) rfl (.bin rfl rfl rfl) <| .p .no rfl (.pickF rfl h23 rfl) <| .m rfl rfl <| .split (t := 120) rfl (fun h24 => ?_) (fun h24 => ?_)
        ·have kh24 := dF (nT h24)
         have hF := cT h24 hF
         refine .skip (.yes rfl rfl h24) rfl <| .skip (.yes rfl rfl h24) rfl <| .skip (.yes rfl rfl h24) rfl <| .p .no rfl (.pickT rfl h24 rfl) <| .nil <| sq_n <| .condT rfl rfl <| .seq <| .region rfl <| .z rfl rfl <| .nil <| sq_n <| .ret <| sq_r ?_
         obtain rfl := sI hF
         refine retQ_r (((hle3.trans hle17).trans hle19).trans hle21) (.tmp rfl .nil) rfl ?_
         rfl
        ·have kh24 := dT (nF h24)
         have hF := cF h24 hF
         refine .ld (.yes rfl rfl h24) rfl (.a (vs := [_, _]) rfl (.tl (.tl (.tl .hd))) a_27 s_27 rfl rfl) <| .ld (.yes rfl rfl h24) rfl (.a (vs := [_, _]) rfl (.tl (.tl .hd)) a_27 s_27 rfl rfl) <| .p (.yes rfl rfl h24) rfl (.binE rfl rfl (binV_neq (by kernel_rfl) (eq_27 _ _ _ _))) ?_
         refine .p .no rfl (.pickF rfl h24 rfl) <| .nil <| sq_n <| .cond rfl (fun h25 => ?_) (fun h25 => ?_)
         ·have kh25 := (nT h25)
          have hF := cT h25 hF
          refine .seq <| .region rfl <| .z rfl rfl <| .nil <| sq_n <| .ret <| sq_r ?_
          obtain rfl := sI hF
          refine retQ_r (((hle3.trans hle17).trans hle19).trans hle21) (.tmp rfl .nil) rfl ?_
          rfl
         ·have kh25 := (nF h25)
          have hF := cF h25 hF
          refine .skip <| sq_n <| .seq <| .seq <| .region rfl <| .p .no rfl (.fa rfl f_37_0) <| .ld .no rfl (.s rfl (.tl (.tl (.tl (.tl .hd)))) a_3 rfl) <| .p .no rfl (.fa rfl f_97_0) <| .ld .no rfl (.s rfl (.tl .hd) a_3 rfl) <| .b rfl rfl rfl rfl <| .nil <| sq_n <| .cond rfl (fun h26 => ?_) (fun h26 => ?_)
          ·have kh26 := dT h26
           have hF := cT h26 hF
           refine .seq <| .region rfl <| .ld .no rfl (.a (vs := [_, _]) rfl .hd a_24 s_24 rfl rfl) <| .p .no rfl (.fa rfl f_37_0) <| .ld .no rfl (.s rfl (.tl (.tl (.tl (.tl .hd)))) a_3 rfl) <| .p .no rfl (.fa rfl f_37_1) <| .ld .no rfl (.s rfl (.tl (.tl (.tl (.tl .hd)))) a_3 rfl) <| .p .no rfl (.fa rfl f_37_2) <| .ld .no rfl (.s rfl (.tl (.tl (.tl (.tl .hd)))) a_25 rfl) ?_
           obtain ⟨q27, hq27, hF⟩ := bS hF
           refine .callV .no rfl rfl rfl (F_code_Judge_ok q19.1 q3.2.Day q3.2.Formula q3.2.Rooms _ _ _ ⟨_, rfl, hc19_0⟩ h2_3_1 _ hq27) <| .m rfl rfl <| .p .no rfl (.ext rfl rfl) <| .p .no rfl (.ext rfl rfl) <| .alloc .no rfl z_27 fun b28 => .st (cs' := [_, _]) .no rfl rfl rfl rfl s_27 rfl rfl .hd rfl rfl <| .z rfl rfl <| .nil <| sq_n <| .seq <| .region rfl <| .m rfl rfl <| .b rfl rfl rfl rfl <| .m rfl rfl <| .split (t := 143) rfl (fun h29 => ?_) (fun h29 => ?_)
           ·have kh29 := dF (nT h29)
            have hF := cT h29 hF
            refine .skip (.yes rfl rfl h29) rfl <| .skip (.yes rfl rfl h29) rfl <| .skip (.yes rfl rfl h29) rfl <| .p .no rfl (.pickT rfl h29 rfl) <| .nil <| sq_n <| .condT rfl rfl <| .seq <| .region rfl <| .z rfl rfl <| .nil <| sq_n <| .ret <| sq_r ?_
            obtain rfl := sI hF
            refine retQ_r (((hle3.trans hle17).trans hle19).trans hle21) (.tmp rfl .nil) rfl ?_
            rfl
           ·have kh29 := dT (nF h29)
            have hF := cF h29 hF
            refine .ld (.yes rfl rfl h29) rfl (.a (vs := [_, _]) rfl .hd a_27 s_27 rfl rfl) <| .ld (.yes rfl rfl h29) rfl (.a (vs := [_, _]) rfl (.tl (.tl (.tl (.tl .hd)))) a_27 s_27 rfl rfl) <| .p (.yes rfl rfl h29) rfl (.binE rfl rfl (binV_neq (by kernel_rfl) (eq_27 _ _ _ _))) ?_
            refine .p .no rfl (.pickF rfl h29 rfl) <| .nil <| sq_n <| .cond rfl (fun h30 => ?_) (fun h30 => ?_)
            ·have kh30 := (nT h30)
             have hF := cT h30 hF
             refine .seq <| .region rfl <| .z rfl rfl <| .nil <| sq_n <| .ret <| sq_r ?_
             obtain rfl := sI hF
             refine retQ_r (((hle3.trans hle17).trans hle19).trans hle21) (.tmp rfl .nil) rfl ?_
             rfl
            ·have kh30 := (nF h30)
             have hF := cF h30 hF
             refine .skip <| sq_n <| .seq <| .region rfl <| .z rfl rfl <| .nil <| sq_n <| .seq <| .seq <| .region rfl <| .z rfl rfl <| .nil <| sq_n <| .block ?_
             obtain ⟨o1, hF, hG1⟩ := bS hF
             refine .loopx (α := L_l04_CodeForce_1) [(7, _), (8, _), (18, _)] _ (fun fx x => (22, .i .i64 (x.k1_1 : Int)) :: (23, .i .i64 (x.k1_2 : Int)) :: fx) (fun mx _ => mx) (fun x g' => x.k1_2 ≤ q3.1.vs.length + 1 ∧ F_l04_CodeForce_l1 q3 q21 (q3.1.vs.drop x.k1_2) x.k1_1 x.k1_2 = some o1) (fun x => q3.1.vs.length - x.k1_2) (L_l04_CodeForce_1.mk 0 1) ⟨rfl, rfl, rfl, rfl, rfl, trivial⟩ (List.Sublist.refl _) ⟨(by first | omega | (dsimp only; omega)), hF⟩ ?_
             intro x1 gl1 hlo1 hJ1
             obtain ⟨k1_1, k1_2⟩ := x1
             try dsimp only at hJ1
             obtain ⟨hk1, hF⟩ := hJ1
             refine .al0 [(22, .i .i64 (k1_1 : Int)), (23, .i .i64 (k1_2 : Int)), (7, _), (8, _), (18, _)] ?_
             replace hc3_0 := hc3_0.mono VersionR.mono hlo1
             replace h2_3_1 := h2_3_1.mono RoomR.mono hlo1
             replace hw21_0_0 := hw21_0_0.mono IntR.mono hlo1
             refine .seq <| .seq <| .region rfl <| .m rfl rfl <| .p .no rfl (.fa rfl f_24_1) <| .ld .no rfl (.s rfl (.tl (.tl (.tl (.tl (.tl (.tl .hd)))))) a_22 rfl) <| .p .no rfl (.lenR rfl rfl rfl e_22 hc3_0) <| .b rfl rfl rfl rfl <| .nil <| sq_n <| .cond rfl (fun h31 => ?_) (fun h31 => ?_)
             ·have kh31 := dT h31
              obtain ⟨y1, hy1⟩ := getK (l := q3.1.vs) (k := k1_2) kh31
              rw [dc hy1, F_l04_CodeForce_l1] at hF
              refine .skip <| sq_n <| .seq <| .block <| .seq <| .draw (tb := [r0 0 0, r0 0 0, r0 2 0, r0 0 0, r0 14 0, r0 30 0, r0 62 0, r0 126 0, r0 0 0, r0 256 0, r0 0 0, r0 1024 0, r1 4095 0, r1 8191 1, r1 16383 1, r1 16383 1, r0 0 0, r1 98303 1, r1 262143 2]) rfl (by kernel_rfl) (by kernel_rfl) ?_
              refine .y rfl rfl rfl (.a (vs := [_, _]) rfl (.tl (.tl (.tl (.tl (.tl (.tl .hd)))))) a_24 s_24 rfl rfl) <| .p .no rfl (.fa rfl f_24_1) rfl rfl rfl <| .y rfl rfl rfl (.s rfl (.tl (.tl (.tl (.tl (.tl (.tl .hd)))))) a_22 rfl) <| .m rfl rfl <| .ixk (j := k1_2) .no rfl rfl hc3_0 rfl e_22 hy1 ?_
              rintro b32 o32 _ hq32 ⟨p32, lv32, rfl, hp32, hl32⟩
              have lh32_1 := hp32.1
              have lh32_2 := (hl32 0 (by decide)).1
              have lh32_3 := (hl32 1 (by decide)).1
              have lh32_4 := (hl32 2 (by decide)).1
              have lh32_5 := (hl32 3 (by decide)).1
              have lh32_6 := (hl32 4 (by decide)).1
              have lh32_7 := (hl32 5 (by decide)).1
              have lh32_8 := (hl32 6 (by decide)).1
              have lh32_9 := (hl32 7 (by decide)).1
              have lh32_10 := (hl32 8 (by decide)).1
              have lh32_11 := (hl32 9 (by decide)).1
              refine .p .no rfl (.fa rfl f_97_0) rfl rfl rfl <| .y rfl rfl rfl (.ps 0 rfl hq32 rfl a_3 rfl) <| .b rfl rfl rfl rfl <| .p .no rfl (.fa rfl f_37_1) rfl rfl rfl <| .y rfl rfl rfl (.s rfl (.tl (.tl (.tl (.tl (.tl .hd))))) a_3 rfl) <| .p .no rfl (.fa rfl f_37_2) rfl rfl rfl <| .y rfl rfl rfl (.s rfl (.tl (.tl (.tl (.tl (.tl .hd))))) a_25 rfl) ?_
              obtain ⟨q33, hq33, hF⟩ := bS hF
              refine .callV .no rfl rfl rfl rfl rfl (F_code_Judge_ok q3.1 (wr (y1.fr - 1)) q3.2.Formula q3.2.Rooms _ _ _ ⟨_, rfl, hc3_0⟩ h2_3_1 _ hq33) <| .m rfl rfl <| .p .no rfl (.ext rfl rfl) rfl rfl rfl <| .p .no rfl (.ext rfl rfl) rfl rfl rfl <| .f .no rfl (.alloc z_27) fun b34 => .st (cs' := [_, _]) .no (pinF_t rfl pinF_n) (restA_t rfl restA_n) rfl rfl rfl rfl s_27 rfl rfl .hd rfl rfl (.all (allA_c rfl (allA_c rfl (allA_c rfl (allA_c rfl (allA_c rfl rfl)))))) <| .z rfl rfl <| .nil <| sq_n <| .seq <| .draw (tb := [r0 0 0, r0 0 0, r0 2 0, r0 0 0, r0 14 0, r0 30 0, r0 62 0, r0 0 0, r0 128 0, r0 0 0, r0 512 0, r1 2047 0, r1 4095 1, r1 8191 1, r1 8191 1, r0 0 0, r1 49151 1, r1 131071 2]) rfl (by kernel_rfl) (by kernel_rfl) ?_
              refine .y rfl rfl rfl (.a (vs := [_, _]) rfl (.tl (.tl (.tl (.tl (.tl (.tl (.tl .hd))))))) a_24 s_24 rfl rfl) <| .p .no rfl (.fa rfl f_24_1) rfl rfl rfl <| .y rfl rfl rfl (.s rfl (.tl (.tl (.tl (.tl (.tl (.tl (.tl .hd))))))) a_22 rfl) <| .m rfl rfl <| .ixk (j := k1_2) .no rfl rfl hc3_0 rfl e_22 hy1 ?_
              rintro b35 o35 _ hq35 ⟨p35, lv35, rfl, hp35, hl35⟩
              have lh35_1 := hp35.1
              have lh35_2 := (hl35 0 (by decide)).1
              have lh35_3 := (hl35 1 (by decide)).1
              have lh35_4 := (hl35 2 (by decide)).1
              have lh35_5 := (hl35 3 (by decide)).1
              have lh35_6 := (hl35 4 (by decide)).1
              have lh35_7 := (hl35 5 (by decide)).1
              have lh35_8 := (hl35 6 (by decide)).1
              have lh35_9 := (hl35 7 (by decide)).1
              have lh35_10 := (hl35 8 (by decide)).1
              have lh35_11 := (hl35 9 (by decide)).1
              refine .p .no rfl (.fa rfl f_97_0) rfl rfl rfl <| .y rfl rfl rfl (.ps 0 rfl hq35 rfl a_3 rfl) <| .p .no rfl (.fa rfl f_37_1) rfl rfl rfl <| .y rfl rfl rfl (.s rfl (.tl (.tl (.tl (.tl (.tl (.tl .hd)))))) a_3 rfl) <| .p .no rfl (.fa rfl f_37_2) rfl rfl rfl <| .y rfl rfl rfl (.s rfl (.tl (.tl (.tl (.tl (.tl (.tl .hd)))))) a_25 rfl) ?_
              obtain ⟨q36, hq36, hF⟩ := bS hF
              refine .callV .no rfl rfl rfl rfl rfl (F_code_Judge_ok q3.1 y1.fr q3.2.Formula q3.2.Rooms _ _ _ ⟨_, rfl, hc3_0⟩ h2_3_1 _ hq36) <| .m rfl rfl <| .p .no rfl (.ext rfl rfl) rfl rfl rfl <| .p .no rfl (.ext rfl rfl) rfl rfl rfl <| .f .no rfl (.alloc z_27) fun b37 => .st (cs' := [_, _]) .no (pinF_t rfl pinF_n) (restA_t rfl restA_n) rfl rfl rfl rfl s_27 rfl rfl .hd rfl rfl (.all (allA_c rfl (allA_c rfl (allA_c rfl (allA_c rfl (allA_c rfl rfl)))))) <| .z rfl rfl <| .nil <| sq_n <| .seq <| .seq <| .region rfl <| .m rfl rfl <| .b rfl rfl rfl rfl <| .m rfl rfl <| .split (t := 188) rfl (fun h38 => ?_) (fun h38 => ?_)
              ·have kh38 := dF (nT h38)
               have hF := cT h38 hF
               refine .skip (.yes rfl rfl h38) rfl <| .skip (.yes rfl rfl h38) rfl <| .p .no rfl (.pickT rfl h38 rfl) <| .nil <| sq_n <| .condT rfl rfl <| .seq <| .region rfl <| .z rfl rfl <| .nil <| sq_n <| .ret <| sq_r <| bq_r <| sq_r <| lq_r <| bq_r <| sq_r ?_
               obtain rfl := sI hF
               have hF := hG1
               obtain rfl := sI hF
               refine retQ_r ((((hle3.trans hle17).trans hle19).trans hle21).trans hlo1) (.tmp rfl .nil) rfl ?_
               rfl
              ·have kh38 := dT (nF h38)
               have hF := cF h38 hF
               refine .p (.yes rfl rfl h38) rfl (.move rfl) <| .p (.yes rfl rfl h38) rfl (.bin rfl rfl rfl) <| .p .no rfl (.pickF rfl h38 rfl) <| .nil <| sq_n <| .cond rfl (fun h39 => ?_) (fun h39 => ?_)
               ·have kh39 := dF (nT h39)
                have hF := cT h39 hF
                refine .seq <| .region rfl <| .z rfl rfl <| .nil <| sq_n <| .ret <| sq_r <| bq_r <| sq_r <| lq_r <| bq_r <| sq_r ?_
                obtain rfl := sI hF
                have hF := hG1
                obtain rfl := sI hF
                refine retQ_r ((((hle3.trans hle17).trans hle19).trans hle21).trans hlo1) (.tmp rfl .nil) rfl ?_
                rfl
               ·have kh39 := dT (nF h39)
                have hF := cF h39 hF
                refine .skip <| sq_n <| .seq <| .region rfl <| .ld .no rfl (.a (vs := [_, _]) rfl (.tl .hd) a_27 s_27 rfl rfl) <| .ld .no rfl (.a (vs := [_, _]) rfl .hd a_27 s_27 rfl rfl) <| .p .no rfl (.binE rfl rfl (binV_neq (by kernel_rfl) (eq_27 _ _ _ _))) ?_
                refine .nil <| sq_n <| .cond rfl (fun h40 => ?_) (fun h40 => ?_)
                ·have kh40 := (nT h40)
                 have hF := cT h40 hF
                 refine .seq <| .seq <| .draw (tb := [r1 0 0, r1 0 0, r1 2 0, r1 7 0, r1 15 0, r0 31 0, r0 31 0, r0 127 0, r0 255 0, r0 31 0, r0 543 0, r0 31 0, r0 3615 0, r0 7711 0, r0 15903 0, r1 32767 0, r1 65535 0]) rfl (by kernel_rfl) (by kernel_rfl) ?_
                 refine .m rfl rfl <| .m rfl rfl <| .p .no rfl (.lenR rfl rfl rfl e_66 hw21_0_0) rfl rfl rfl <| .b rfl rfl rfl rfl <| .m rfl rfl <| .split (t := 199) rfl (fun h41 => ?_) (fun h41 => ?_)
                 ·have kh41 := dT h41
                  have hF := cT h41 hF
                  refine .skip (.yes rfl rfl h41) rfl rfl <| .skip (.yes rfl rfl h41) rfl rfl <| .skip (.yes rfl rfl h41) rfl rfl <| .skip (.yes rfl rfl h41) rfl rfl <| .skip (.yes rfl rfl h41) rfl rfl <| .skip (.yes rfl rfl h41) rfl rfl <| .skip (.yes rfl rfl h41) rfl rfl <| .skip (.yes rfl rfl h41) rfl rfl <| .skip (.yes rfl rfl h41) rfl rfl <| .skip (.yes rfl rfl h41) rfl rfl <| .skip (.yes rfl rfl h41) rfl rfl <| .p .no rfl (.pickT rfl h41 rfl) rfl rfl rfl <| .nil <| sq_n <| .condT rfl rfl <| .seq <| .region rfl <| .z rfl rfl <| .nil <| sq_n <| .ret <| sq_r <| bq_r <| sq_r <| lq_r <| bq_r <| sq_r ?_
                  obtain rfl := sI hF
                  have hF := hG1
                  obtain rfl := sI hF
                  refine retQ_r ((((hle3.trans hle17).trans hle19).trans hle21).trans hlo1) (.tmp rfl .nil) rfl ?_
                  rfl
                 ·have kh41 := dF h41
                  have hF := cF h41 hF
                  refine .p (.yes rfl rfl h41) rfl (.move rfl) rfl rfl rfl <| .p (.yes rfl rfl h41) rfl (.move rfl) rfl rfl rfl ?_
                  obtain ⟨y42, hy42, hF⟩ := bS hF
                  have hj42 := atN_lt hy42
                  refine .ixk (j := k1_1) (.yes rfl rfl h41) rfl rfl hw21_0_0 rfl e_66 hy42 ?_
                  rintro b42 o42 _ hq42 rfl
                  refine .ld (k := 0) (.yes rfl rfl h41) rfl rfl rfl trivial (.ps 0 rfl hq42 rfl a_3 rfl) <| .p (.yes rfl rfl h41) rfl (.fa rfl f_24_1) rfl rfl rfl <| .ld (k := 0) (.yes rfl rfl h41) rfl rfl rfl trivial (.s rfl (.tl (.tl (.tl (.tl (.tl (.tl (.tl (.tl .hd)))))))) a_22 rfl) <| .p (.yes rfl rfl h41) rfl (.move rfl) rfl rfl rfl <| .ixk (j := k1_2) (.yes rfl rfl h41) rfl rfl hc3_0 rfl e_22 hy1 ?_
                  rintro b43 o43 _ hq43 ⟨p43, lv43, rfl, hp43, hl43⟩
                  have lh43_1 := hp43.1
                  have lh43_2 := (hl43 0 (by decide)).1
                  have lh43_3 := (hl43 1 (by decide)).1
                  have lh43_4 := (hl43 2 (by decide)).1
                  have lh43_5 := (hl43 3 (by decide)).1
                  have lh43_6 := (hl43 4 (by decide)).1
                  have lh43_7 := (hl43 5 (by decide)).1
                  have lh43_8 := (hl43 6 (by decide)).1
                  have lh43_9 := (hl43 7 (by decide)).1
                  have lh43_10 := (hl43 8 (by decide)).1
                  have lh43_11 := (hl43 9 (by decide)).1
                  refine .p (.yes rfl rfl h41) rfl (.fa rfl f_97_0) rfl rfl rfl <| .ld (k := 0) (.yes rfl rfl h41) rfl rfl rfl trivial (.ps 0 rfl hq43 rfl a_3 rfl) <| .p (.yes rfl rfl h41) rfl (.bin rfl rfl rfl) rfl rfl rfl <| .p .no rfl (.pickF rfl h41 rfl) rfl rfl rfl <| .nil <| sq_n <| .cond rfl (fun h44 => ?_) (fun h44 => ?_)
                  ·have kh44 := dF (nT h44)
                   have hF := cT h44 hF
                   refine .seq <| .region rfl <| .z rfl rfl <| .nil <| sq_n <| .ret <| sq_r <| bq_r <| sq_r <| lq_r <| bq_r <| sq_r ?_
                   obtain rfl := sI hF
                   have hF := hG1
                   obtain rfl := sI hF
                   refine retQ_r ((((hle3.trans hle17).trans hle19).trans hle21).trans hlo1) (.tmp rfl .nil) rfl ?_
                   rfl
                  ·have kh44 := dT (nF h44)
                   have hF := cF h44 hF
                   refine .skip <| sq_n <| .region rfl <| .m rfl rfl <| .p .no rfl (.inc1 rfl rfl (by omega)) <| .z rfl rfl <| .nil <| bq_n <| sq_n <| .region rfl <| .m rfl rfl <| .p .no rfl (.inc1 rfl rfl (by omega)) <| .z rfl rfl <| .nil <| loopQ_n (L_l04_CodeForce_1.mk (k1_1 + 1) (k1_2 + 1)) ⟨rfl, rfl, rfl, rfl, rfl, trivial⟩ (.cons _ (.cons _ (List.Sublist.refl _))) (Le.refl _) ?_ ?_
                   ·exact ⟨(Nat.le_add_right_of_le (atN_lt hy1)), hF⟩
                   ·simp only; omega
                ·have kh40 := (nF h40)
                 have hF := cF h40 hF
                 refine .skip <| bq_n <| sq_n <| .region rfl <| .m rfl rfl <| .p .no rfl (.inc1 rfl rfl (by omega)) <| .z rfl rfl <| .nil <| loopQ_n (L_l04_CodeForce_1.mk k1_1 (k1_2 + 1)) ⟨rfl, rfl, rfl, rfl, rfl, trivial⟩ (.cons _ (.cons _ (List.Sublist.refl _))) (Le.refl _) ?_ ?_
                 ·exact ⟨(Nat.le_add_right_of_le (atN_lt hy1)), hF⟩
                 ·simp only; omega
             ·have kh31 := dF h31
              rw [dn (by omega), F_l04_CodeForce_l1] at hF
              obtain rfl := sI hF
              have hF := hG1
              refine .exit <| sq_e <| lq_e <| bq_x rfl <| sq_n <| .seq <| .region rfl <| .m rfl rfl <| .m rfl rfl <| .p .no rfl (.lenR rfl rfl rfl e_66 hw21_0_0) <| .b rfl rfl rfl rfl <| .m rfl rfl <| .split (t := 218) rfl (fun h45 => ?_) (fun h45 => ?_)
              ·have kh45 := dT h45
               have hF := cT h45 hF
               refine .callV (.yes rfl rfl h45) rfl rfl rfl (sane_ok _) <| .p .no rfl (.pickT rfl h45 rfl) <| .z rfl rfl <| .nil <| sq_n <| .ret ?_
               obtain rfl := sI hF
               refine retQ_r ((((hle3.trans hle17).trans hle19).trans hle21).trans hlo1) (.tmp rfl .nil) rfl ?_
               rfl
              ·have kh45 := dF h45
               have hF := cF h45 hF
               refine .skip (.yes rfl rfl h45) rfl <| .p .no rfl (.pickF rfl h45 rfl) <| .z rfl rfl <| .nil <| sq_n <| .ret ?_
               obtain rfl := sI hF
               refine retQ_r ((((hle3.trans hle17).trans hle19).trans hle21).trans hlo1) (.tmp rfl .nil) rfl ?_
               rfl
          ·have kh26 := dF h26
           have hF := cF h26 hF
           refine .skip <| sq_n <| .seq <| .region rfl <| .z rfl rfl <| .nil <| sq_n <| .seq <| .seq <| .region rfl <| .z rfl rfl <| .nil <| sq_n <| .block ?_
           obtain ⟨o2, hF, hG2⟩ := bS hF
           refine .loopx (α := L_l04_CodeForce_2) [(7, _), (8, _), (18, _)] _ (fun fx x => (22, .i .i64 (x.k2_1 : Int)) :: (23, .i .i64 (x.k2_2 : Int)) :: fx) (fun mx _ => mx) (fun x g' => x.k2_2 ≤ q3.1.vs.length + 1 ∧ F_l04_CodeForce_l2 q3 q21 (q3.1.vs.drop x.k2_2) x.k2_1 x.k2_2 = some o2) (fun x => q3.1.vs.length - x.k2_2) (L_l04_CodeForce_2.mk 0 1) ⟨rfl, rfl, rfl, rfl, rfl, trivial⟩ (List.Sublist.refl _) ⟨(by first | omega | (dsimp only; omega)), hF⟩ ?_
           intro x2 gl2 hlo2 hJ2
           obtain ⟨k2_1, k2_2⟩ := x2
           try dsimp only at hJ2
           obtain ⟨hk2, hF⟩ := hJ2
           refine .al0 [(22, .i .i64 (k2_1 : Int)), (23, .i .i64 (k2_2 : Int)), (7, _), (8, _), (18, _)] ?_
           replace hc3_0 := hc3_0.mono VersionR.mono hlo2
           replace h2_3_1 := h2_3_1.mono RoomR.mono hlo2
           replace hw21_0_0 := hw21_0_0.mono IntR.mono hlo2
           refine .seq <| .seq <| .region rfl <| .m rfl rfl <| .p .no rfl (.fa rfl f_24_1) <| .ld .no rfl (.s rfl (.tl (.tl (.tl (.tl (.tl .hd))))) a_22 rfl) <| .p .no rfl (.lenR rfl rfl rfl e_22 hc3_0) <| .b rfl rfl rfl rfl <| .nil <| sq_n <| .cond rfl (fun h47 => ?_) (fun h47 => ?_)
           ·have kh47 := dT h47
            obtain ⟨y2, hy2⟩ := getK (l := q3.1.vs) (k := k2_2) kh47
            rw [dc hy2, F_l04_CodeForce_l2] at hF
            refine .skip <| sq_n <| .seq <| .block <| .seq <| .draw (tb := [r0 0 0, r0 0 0, r0 2 0, r0 0 0, r0 14 0, r0 30 0, r0 62 0, r0 126 0, r0 0 0, r0 256 0, r0 0 0, r0 1024 0, r1 4095 0, r1 8191 1, r1 16383 1, r1 16383 1, r0 0 0, r1 98303 1, r1 262143 2]) rfl (by kernel_rfl) (by kernel_rfl) ?_
            refine .y rfl rfl rfl (.a (vs := [_, _]) rfl (.tl (.tl (.tl (.tl (.tl .hd))))) a_24 s_24 rfl rfl) <| .p .no rfl (.fa rfl f_24_1) rfl rfl rfl <| .y rfl rfl rfl (.s rfl (.tl (.tl (.tl (.tl (.tl .hd))))) a_22 rfl) <| .m rfl rfl <| .ixk (j := k2_2) .no rfl rfl hc3_0 rfl e_22 hy2 ?_
            rintro b48 o48 _ hq48 ⟨p48, lv48, rfl, hp48, hl48⟩
            have lh48_1 := hp48.1
            have lh48_2 := (hl48 0 (by decide)).1
            have lh48_3 := (hl48 1 (by decide)).1
            have lh48_4 := (hl48 2 (by decide)).1
            have lh48_5 := (hl48 3 (by decide)).1
            have lh48_6 := (hl48 4 (by decide)).1
            have lh48_7 := (hl48 5 (by decide)).1
            have lh48_8 := (hl48 6 (by decide)).1
            have lh48_9 := (hl48 7 (by decide)).1
            have lh48_10 := (hl48 8 (by decide)).1
            have lh48_11 := (hl48 9 (by decide)).1
            refine .p .no rfl (.fa rfl f_97_0) rfl rfl rfl <| .y rfl rfl rfl (.ps 0 rfl hq48 rfl a_3 rfl) <| .b rfl rfl rfl rfl <| .p .no rfl (.fa rfl f_37_1) rfl rfl rfl <| .y rfl rfl rfl (.s rfl (.tl (.tl (.tl (.tl .hd)))) a_3 rfl) <| .p .no rfl (.fa rfl f_37_2) rfl rfl rfl <| .y rfl rfl rfl (.s rfl (.tl (.tl (.tl (.tl .hd)))) a_25 rfl) ?_
            obtain ⟨q49, hq49, hF⟩ := bS hF
            refine .callV .no rfl rfl rfl rfl rfl (F_code_Judge_ok q3.1 (wr (y2.fr - 1)) q3.2.Formula q3.2.Rooms _ _ _ ⟨_, rfl, hc3_0⟩ h2_3_1 _ hq49) <| .m rfl rfl <| .p .no rfl (.ext rfl rfl) rfl rfl rfl <| .p .no rfl (.ext rfl rfl) rfl rfl rfl <| .f .no rfl (.alloc z_27) fun b50 => .st (cs' := [_, _]) .no (pinF_t rfl pinF_n) (restA_t rfl restA_n) rfl rfl rfl rfl s_27 rfl rfl .hd rfl rfl (.all (allA_c rfl (allA_c rfl (allA_c rfl (allA_c rfl (allA_c rfl rfl)))))) <| .z rfl rfl <| .nil <| sq_n <| .seq <| .draw (tb := [r0 0 0, r0 0 0, r0 2 0, r0 0 0, r0 14 0, r0 30 0, r0 62 0, r0 0 0, r0 128 0, r0 0 0, r0 512 0, r1 2047 0, r1 4095 1, r1 8191 1, r1 8191 1, r0 0 0, r1 49151 1, r1 131071 2]) rfl (by kernel_rfl) (by kernel_rfl) ?_
            refine .y rfl rfl rfl (.a (vs := [_, _]) rfl (.tl (.tl (.tl (.tl (.tl (.tl .hd)))))) a_24 s_24 rfl rfl) <| .p .no rfl (.fa rfl f_24_1) rfl rfl rfl <| .y rfl rfl rfl (.s rfl (.tl (.tl (.tl (.tl (.tl (.tl .hd)))))) a_22 rfl) <| .m rfl rfl <| .ixk (j := k2_2) .no rfl rfl hc3_0 rfl e_22 hy2 ?_
            rintro b51 o51 _ hq51 ⟨p51, lv51, rfl, hp51, hl51⟩
            have lh51_1 := hp51.1
            have lh51_2 := (hl51 0 (by decide)).1
            have lh51_3 := (hl51 1 (by decide)).1
            have lh51_4 := (hl51 2 (by decide)).1
            have lh51_5 := (hl51 3 (by decide)).1
            have lh51_6 := (hl51 4 (by decide)).1
            have lh51_7 := (hl51 5 (by decide)).1
            have lh51_8 := (hl51 6 (by decide)).1
            have lh51_9 := (hl51 7 (by decide)).1
            have lh51_10 := (hl51 8 (by decide)).1
            have lh51_11 := (hl51 9 (by decide)).1
            refine .p .no rfl (.fa rfl f_97_0) rfl rfl rfl <| .y rfl rfl rfl (.ps 0 rfl hq51 rfl a_3 rfl) <| .p .no rfl (.fa rfl f_37_1) rfl rfl rfl <| .y rfl rfl rfl (.s rfl (.tl (.tl (.tl (.tl (.tl .hd))))) a_3 rfl) <| .p .no rfl (.fa rfl f_37_2) rfl rfl rfl <| .y rfl rfl rfl (.s rfl (.tl (.tl (.tl (.tl (.tl .hd))))) a_25 rfl) ?_
            obtain ⟨q52, hq52, hF⟩ := bS hF
            refine .callV .no rfl rfl rfl rfl rfl (F_code_Judge_ok q3.1 y2.fr q3.2.Formula q3.2.Rooms _ _ _ ⟨_, rfl, hc3_0⟩ h2_3_1 _ hq52) <| .m rfl rfl <| .p .no rfl (.ext rfl rfl) rfl rfl rfl <| .p .no rfl (.ext rfl rfl) rfl rfl rfl <| .f .no rfl (.alloc z_27) fun b53 => .st (cs' := [_, _]) .no (pinF_t rfl pinF_n) (restA_t rfl restA_n) rfl rfl rfl rfl s_27 rfl rfl .hd rfl rfl (.all (allA_c rfl (allA_c rfl (allA_c rfl (allA_c rfl (allA_c rfl rfl)))))) <| .z rfl rfl <| .nil <| sq_n <| .seq <| .seq <| .region rfl <| .m rfl rfl <| .b rfl rfl rfl rfl <| .m rfl rfl <| .split (t := 188) rfl (fun h54 => ?_) (fun h54 => ?_)
            ·have kh54 := dF (nT h54)
             have hF := cT h54 hF
             refine .skip (.yes rfl rfl h54) rfl <| .skip (.yes rfl rfl h54) rfl <| .p .no rfl (.pickT rfl h54 rfl) <| .nil <| sq_n <| .condT rfl rfl <| .seq <| .region rfl <| .z rfl rfl <| .nil <| sq_n <| .ret <| sq_r <| bq_r <| sq_r <| lq_r <| bq_r <| sq_r ?_
             obtain rfl := sI hF
             have hF := hG2
             obtain rfl := sI hF
             refine retQ_r ((((hle3.trans hle17).trans hle19).trans hle21).trans hlo2) (.tmp rfl .nil) rfl ?_
             rfl
            ·have kh54 := dT (nF h54)
             have hF := cF h54 hF
             refine .p (.yes rfl rfl h54) rfl (.move rfl) <| .p (.yes rfl rfl h54) rfl (.bin rfl rfl rfl) <| .p .no rfl (.pickF rfl h54 rfl) <| .nil <| sq_n <| .cond rfl (fun h55 => ?_) (fun h55 => ?_)
             ·have kh55 := dF (nT h55)
              have hF := cT h55 hF
              refine .seq <| .region rfl <| .z rfl rfl <| .nil <| sq_n <| .ret <| sq_r <| bq_r <| sq_r <| lq_r <| bq_r <| sq_r ?_
              obtain rfl := sI hF
              have hF := hG2
              obtain rfl := sI hF
              refine retQ_r ((((hle3.trans hle17).trans hle19).trans hle21).trans hlo2) (.tmp rfl .nil) rfl ?_
              rfl
             ·have kh55 := dT (nF h55)
              have hF := cF h55 hF
              refine .skip <| sq_n <| .seq <| .region rfl <| .ld .no rfl (.a (vs := [_, _]) rfl (.tl .hd) a_27 s_27 rfl rfl) <| .ld .no rfl (.a (vs := [_, _]) rfl .hd a_27 s_27 rfl rfl) <| .p .no rfl (.binE rfl rfl (binV_neq (by kernel_rfl) (eq_27 _ _ _ _))) ?_
              refine .nil <| sq_n <| .cond rfl (fun h56 => ?_) (fun h56 => ?_)
              ·have kh56 := (nT h56)
               have hF := cT h56 hF
               refine .seq <| .seq <| .draw (tb := [r1 0 0, r1 0 0, r1 2 0, r1 7 0, r1 15 0, r0 31 0, r0 31 0, r0 127 0, r0 255 0, r0 31 0, r0 543 0, r0 31 0, r0 3615 0, r0 7711 0, r0 15903 0, r1 32767 0, r1 65535 0]) rfl (by kernel_rfl) (by kernel_rfl) ?_
               refine .m rfl rfl <| .m rfl rfl <| .p .no rfl (.lenR rfl rfl rfl e_66 hw21_0_0) rfl rfl rfl <| .b rfl rfl rfl rfl <| .m rfl rfl <| .split (t := 199) rfl (fun h57 => ?_) (fun h57 => ?_)
               ·have kh57 := dT h57
                have hF := cT h57 hF
                refine .skip (.yes rfl rfl h57) rfl rfl <| .skip (.yes rfl rfl h57) rfl rfl <| .skip (.yes rfl rfl h57) rfl rfl <| .skip (.yes rfl rfl h57) rfl rfl <| .skip (.yes rfl rfl h57) rfl rfl <| .skip (.yes rfl rfl h57) rfl rfl <| .skip (.yes rfl rfl h57) rfl rfl <| .skip (.yes rfl rfl h57) rfl rfl <| .skip (.yes rfl rfl h57) rfl rfl <| .skip (.yes rfl rfl h57) rfl rfl <| .skip (.yes rfl rfl h57) rfl rfl <| .p .no rfl (.pickT rfl h57 rfl) rfl rfl rfl <| .nil <| sq_n <| .condT rfl rfl <| .seq <| .region rfl <| .z rfl rfl <| .nil <| sq_n <| .ret <| sq_r <| bq_r <| sq_r <| lq_r <| bq_r <| sq_r ?_
                obtain rfl := sI hF
                have hF := hG2
                obtain rfl := sI hF
                refine retQ_r ((((hle3.trans hle17).trans hle19).trans hle21).trans hlo2) (.tmp rfl .nil) rfl ?_
                rfl
               ·have kh57 := dF h57
                have hF := cF h57 hF
                refine .p (.yes rfl rfl h57) rfl (.move rfl) rfl rfl rfl <| .p (.yes rfl rfl h57) rfl (.move rfl) rfl rfl rfl ?_
                obtain ⟨y58, hy58, hF⟩ := bS hF
                have hj58 := atN_lt hy58
                refine .ixk (j := k2_1) (.yes rfl rfl h57) rfl rfl hw21_0_0 rfl e_66 hy58 ?_
                rintro b58 o58 _ hq58 rfl
                refine .ld (k := 0) (.yes rfl rfl h57) rfl rfl rfl trivial (.ps 0 rfl hq58 rfl a_3 rfl) <| .p (.yes rfl rfl h57) rfl (.fa rfl f_24_1) rfl rfl rfl <| .ld (k := 0) (.yes rfl rfl h57) rfl rfl rfl trivial (.s rfl (.tl (.tl (.tl (.tl (.tl (.tl (.tl .hd))))))) a_22 rfl) <| .p (.yes rfl rfl h57) rfl (.move rfl) rfl rfl rfl <| .ixk (j := k2_2) (.yes rfl rfl h57) rfl rfl hc3_0 rfl e_22 hy2 ?_
                rintro b59 o59 _ hq59 ⟨p59, lv59, rfl, hp59, hl59⟩
                have lh59_1 := hp59.1
                have lh59_2 := (hl59 0 (by decide)).1
                have lh59_3 := (hl59 1 (by decide)).1
                have lh59_4 := (hl59 2 (by decide)).1
                have lh59_5 := (hl59 3 (by decide)).1
                have lh59_6 := (hl59 4 (by decide)).1
                have lh59_7 := (hl59 5 (by decide)).1
                have lh59_8 := (hl59 6 (by decide)).1
                have lh59_9 := (hl59 7 (by decide)).1
                have lh59_10 := (hl59 8 (by decide)).1
                have lh59_11 := (hl59 9 (by decide)).1
                refine .p (.yes rfl rfl h57) rfl (.fa rfl f_97_0) rfl rfl rfl <| .ld (k := 0) (.yes rfl rfl h57) rfl rfl rfl trivial (.ps 0 rfl hq59 rfl a_3 rfl) <| .p (.yes rfl rfl h57) rfl (.bin rfl rfl rfl) rfl rfl rfl <| .p .no rfl (.pickF rfl h57 rfl) rfl rfl rfl <| .nil <| sq_n <| .cond rfl (fun h60 => ?_) (fun h60 => ?_)
                ·have kh60 := dF (nT h60)
                 have hF := cT h60 hF
                 refine .seq <| .region rfl <| .z rfl rfl <| .nil <| sq_n <| .ret <| sq_r <| bq_r <| sq_r <| lq_r <| bq_r <| sq_r ?_
                 obtain rfl := sI hF
                 have hF := hG2
                 obtain rfl := sI hF
                 refine retQ_r ((((hle3.trans hle17).trans hle19).trans hle21).trans hlo2) (.tmp rfl .nil) rfl ?_
                 rfl
                ·have kh60 := dT (nF h60)
                 have hF := cF h60 hF
                 refine .skip <| sq_n <| .region rfl <| .m rfl rfl <| .p .no rfl (.inc1 rfl rfl (by omega)) <| .z rfl rfl <| .nil <| bq_n <| sq_n <| .region rfl <| .m rfl rfl <| .p .no rfl (.inc1 rfl rfl (by omega)) <| .z rfl rfl <| .nil <| loopQ_n (L_l04_CodeForce_2.mk (k2_1 + 1) (k2_2 + 1)) ⟨rfl, rfl, rfl, rfl, rfl, trivial⟩ (.cons _ (.cons _ (List.Sublist.refl _))) (Le.refl _) ?_ ?_
                 ·exact ⟨(Nat.le_add_right_of_le (atN_lt hy2)), hF⟩
                 ·simp only; omega
              ·have kh56 := (nF h56)
               have hF := cF h56 hF
               refine .skip <| bq_n <| sq_n <| .region rfl <| .m rfl rfl <| .p .no rfl (.inc1 rfl rfl (by omega)) <| .z rfl rfl <| .nil <| loopQ_n (L_l04_CodeForce_2.mk k2_1 (k2_2 + 1)) ⟨rfl, rfl, rfl, rfl, rfl, trivial⟩ (.cons _ (.cons _ (List.Sublist.refl _))) (Le.refl _) ?_ ?_
               ·exact ⟨(Nat.le_add_right_of_le (atN_lt hy2)), hF⟩
               ·simp only; omega
           ·have kh47 := dF h47
            rw [dn (by omega), F_l04_CodeForce_l2] at hF
            obtain rfl := sI hF
            have hF := hG2
            refine .exit <| sq_e <| lq_e <| bq_x rfl <| sq_n <| .seq <| .region rfl <| .m rfl rfl <| .m rfl rfl <| .p .no rfl (.lenR rfl rfl rfl e_66 hw21_0_0) <| .b rfl rfl rfl rfl <| .m rfl rfl <| .split (t := 218) rfl (fun h61 => ?_) (fun h61 => ?_)
            ·have kh61 := dT h61
             have hF := cT h61 hF
             refine .callV (.yes rfl rfl h61) rfl rfl rfl (sane_ok _) <| .p .no rfl (.pickT rfl h61 rfl) <| .z rfl rfl <| .nil <| sq_n <| .ret ?_
             obtain rfl := sI hF
             refine retQ_r ((((hle3.trans hle17).trans hle19).trans hle21).trans hlo2) (.tmp rfl .nil) rfl ?_
             rfl
            ·have kh61 := dF h61
             have hF := cF h61 hF
             refine .skip (.yes rfl rfl h61) rfl <| .p .no rfl (.pickF rfl h61 rfl) <| .z rfl rfl <| .nil <| sq_n <| .ret ?_
             obtain rfl := sI hF
             refine retQ_r ((((hle3.trans hle17).trans hle19).trans hle21).trans hlo2) (.tmp rfl .nil) rfl ?_
             rfl
end Go.Proofs.YtjflgemfeofciaaGreatDoor

/- Layer 4: CodeForce holds (plain law). -/
namespace Go.Proofs.YtjflgemfeofciaaGreatDoor
open Go Go.Ev
set_option linter.unusedVariables false
set_option linter.unusedSimpArgs false
theorem amend_ok {c : Code} {v : Version} (h1 : c.err = 0) (h2 : v.ok = true) (hl5 : c.vs.length ≤ 5) (hfr : ∀ q, c.vs[c.vs.length - 1]? = some q → q.fr < v.fr) : F_code_Amend c v = some (Code.mk c.name ((c.vs ++ [v]).map copV), 0) := by
  have hc : F_code_of c = some (T_question.mk c (Version.mk 0 [] (arr [[], [], [], [], [], [], [], [], [], []] [])) (-1) c.err) := rfl
  obtain ⟨v1, v2, v3⟩ := code_vs h1
  have hat : atI c.vs ((c.vs.length : Int) - 1) = some (c.vs[c.vs.length - 1]'(by omega)) := by
    rw [show ((c.vs.length : Int) - 1) = ((c.vs.length - 1 : Nat) : Int) from by omega, atI_nat, List.getElem?_eq_getElem]
  have h3 := hfr _ (List.getElem?_eq_getElem (by omega))
  have hcl : F_slices_Clone_api_Version_api_Version c.vs = some c.vs := ckT (decide_eq_true (by omega))
  have hok : ∀ w ∈ c.vs ++ [v], w.ok = true := by
    intro w hw
    rcases List.mem_append.1 hw with hw | hw
    · obtain ⟨i, hi, rfl⟩ := List.mem_iff_getElem.1 hw
      exact (v3 i _ (List.getElem?_eq_getElem hi)).1
    · rw [List.mem_singleton] at hw; rw [hw]; exact h2
  have hl : (c.vs ++ [v]).length ≤ 20 := by simp only [List.length_append, List.length_singleton]; omega
  have ha := am_l2 v c.vs c.name hok hl ((((c.vs ++ [v]).length : Int) - (0 : Int)).toNat) 0 [] (by omega) (Nat.le_refl _)
  unfold F_code_Amend
  rw [hc]
  simp only [Option.bind_some, fail_eq]
  rw [h1, hat, h2]
  simp only [Option.bind_some, decide_true, Bool.not_true, cond_false]
  rw [decide_eq_false (p := v.fr ≤ (c.vs[c.vs.length - 1]'(by omega)).fr) (by omega), decide_eq_false (p := (c.vs.length : Int) = 12) (by omega)]
  simp only [failE_f, decide_true, Bool.not_true, cond_false, hcl, Option.bind_some]
  rw [ckT (decide_eq_true (by omega)), ha]; rfl
theorem days_ok {c : Code} {f : Int} {l : List Room} (h1 : c.err = 0) (hf : within f 0 1 = true) (hr : roomsE l = 0) : F_code_Days c f l = some (daysF c f l (c.vs.drop 1) [], 0) := by
  obtain ⟨a, x1, x2⟩ := days_eq c f l
  obtain ⟨v1, v2, v3⟩ := code_vs h1
  have i2 := (cDays_l1 h1 hf hr (c.vs.drop 1) [] 0 0 rfl (by simp only [List.length_nil, List.length_drop]; omega)).2
  have : F_r04_Days c f l = some (daysF c f l (c.vs.drop 1) [], 0) := by
    unfold F_r04_Days
    rw [h1, hf, hr, i2]; rfl
  rw [this] at x2
  rw [x1, ← x2]
theorem judC_ver {c : Code} {day day' f : Int} {l : List Room} (h : endE c day f l = 0) (h' : endE c day' f l = 0) (hv : verF c day = verF c day') : judC c day f l = judC c day' f l := by
  unfold judC endD
  rw [if_pos h, if_pos h, if_pos h', if_pos h', hv]
theorem fiF_map (day : Int) : ∀ (l : List Version) (k : Nat) (out : Int), fiF day (l.map copV) k out = fiF day l k out
  | [], _, _ => rfl
  | v :: l, k, out => by
    rw [List.map_cons, fiF, fiF, fiF_map day l]; rfl
theorem fiF_app (day : Int) {v : Version} (hv : ¬ v.fr ≤ day) : ∀ (l : List Version) (k : Nat) (out : Int), fiF day (l ++ [v]) k out = fiF day l k out
  | [], k, out => by
    show fiF day [] (k + 1) (if v.fr ≤ day then (k : Int) else out) = out
    rw [if_neg hv]; rfl
  | w :: l, k, out => by
    rw [List.cons_append, fiF, fiF, fiF_app day hv l]
/-- a further version changes nothing ahead of it. -/
theorem more_ok {c : Code} {v : Version} (h1 : c.err = 0) (h2 : v.ok = true) (hl5 : c.vs.length ≤ 5) (hfr : ∀ q, c.vs[c.vs.length - 1]? = some q → q.fr < v.fr) : (Code.mk c.name ((c.vs ++ [v]).map copV)).err = 0 := by
  obtain ⟨v1, v2, v3⟩ := code_vs h1
  have hn : nameB c.name = true := by
    unfold Code.err Code.ok at h1
    cases hx : nameB c.name with
    | true => rfl
    | false => rw [hx, Bool.false_and] at h1; cases h1
  have hall : ∀ (j : Nat) (u : Version), (c.vs ++ [v])[j]? = some u → u.ok = true ∧ (j = 0 ∨ ∀ q, (c.vs ++ [v])[j - 1]? = some q → q.fr < u.fr) := by
    intro j u hu
    by_cases hj : j < c.vs.length
    · rw [List.getElem?_append_left hj] at hu
      obtain ⟨a1, a2⟩ := v3 j u hu
      refine ⟨a1, ?_⟩
      rcases a2 with a2 | a2
      · exact .inl a2
      · refine .inr fun q hq => a2 q ?_
        rwa [List.getElem?_append_left (by omega)] at hq
    · rw [List.getElem?_append_right (by omega)] at hu
      have hj2 : j = c.vs.length := by
        have := (List.getElem?_eq_some_iff.1 hu).1
        simp only [List.length_singleton] at this
        omega
      subst hj2
      rw [Nat.sub_self] at hu
      obtain rfl := Option.some.inj hu
      refine ⟨h2, .inr fun q hq => hfr q ?_⟩
      rwa [List.getElem?_append_left (by omega)] at hq
  unfold Code.err
  rw [if_pos]
  unfold Code.ok
  show (nameB c.name && _) = true
  rw [hn, within_lit (by simp only [List.length_map, List.length_append, List.length_singleton]; omega), Bool.true_and, Bool.true_and]
  refine allR_mk fun k hk => ?_
  have hk' : k < (c.vs ++ [v]).length := by simpa only [List.length_map] using hk
  have hu := List.getElem?_eq_getElem hk'
  obtain ⟨a1, a2⟩ := hall k _ hu
  have hm : ((c.vs ++ [v]).map copV)[k]? = some (copV (c.vs ++ [v])[k]) := by rw [List.getElem?_map, hu]; rfl
  refine (vgood_iff hm).2 ⟨mk_ok a1 (ver_fr a1), ?_⟩
  rcases a2 with a2 | a2
  · exact .inl a2
  · refine .inr fun q hq => ?_
    rw [List.getElem?_map] at hq
    cases hx : (c.vs ++ [v])[k - 1]? with
    | none => rw [hx] at hq; cases hq
    | some w =>
      rw [hx] at hq
      obtain rfl := Option.some.inj hq
      exact a2 w hx
theorem more_judge {c : Code} {v : Version} (h1 : c.err = 0) (h2 : v.ok = true) (hl5 : c.vs.length ≤ 5) (hfr : ∀ q, c.vs[c.vs.length - 1]? = some q → q.fr < v.fr) {f : Int} {l : List Room} (hf : within f 0 1 = true) (hr : roomsE l = 0) {day : Int} (hd : 0 ≤ day ∧ day ≤ 100000) (hdv : day < v.fr) {k : Nat} {y : Version} (hy : c.vs[k]? = some y) (hk : forceI c day = k) :
    endE (Code.mk c.name ((c.vs ++ [v]).map copV)) day f l = 0 ∧ judC (Code.mk c.name ((c.vs ++ [v]).map copV)) day f l = judC c day f l := by
  have e0 := more_ok h1 h2 hl5 hfr
  have hkl := (List.getElem?_eq_some_iff.1 hy).1
  have hy' : (Code.mk c.name ((c.vs ++ [v]).map copV)).vs[k]? = some (copV y) := by
    show ((c.vs ++ [v]).map copV)[k]? = _
    rw [List.getElem?_map, List.getElem?_append_left hkl, hy]; rfl
  have hk' : forceI (Code.mk c.name ((c.vs ++ [v]).map copV)) day = k := by
    unfold forceI at hk ⊢
    rw [fiF_map, fiF_app day (by omega)]; exact hk
  obtain ⟨g1, g2⟩ := end_at e0 hf hr hy' hd hk'
  obtain ⟨k1, k2⟩ := end_at h1 hf hr hy hd hk
  refine ⟨g1, ?_⟩
  unfold judC endD
  rw [if_pos g1, if_pos g1, if_pos k1, if_pos k1, g2, k2]
  rcases (endE_zero k1).f01 with rfl | rfl <;> rfl
theorem daysF_pre (c : Code) (f : Int) (l : List Room) : ∀ (ys : List Version) (d : List Int), ∃ e, daysF c f l ys d = d ++ e
  | [], d => ⟨[], by rw [daysF, List.append_nil]⟩
  | y :: ys, d => by
    rw [daysF]
    split
    · exact daysF_pre c f l ys d
    · obtain ⟨e, h⟩ := daysF_pre c f l ys (d ++ [y.fr])
      exact ⟨y.fr :: e, by rw [h, List.append_assoc]; rfl⟩
theorem judge_code (c : Code) (day f : Int) (l : List Room) : F_code_Judge c day f l = some (judC c day f l, endE c day f l) := rfl
theorem force_l1 {c : Code} {q : T_Ask} (h : WldOk c q) : ∀ (ys : List Version) (d : List Int) (k at' j : Nat), c.vs.drop (k + 1) = ys → d.length = at' → daysF c q.Formula q.Rooms ys d = daysF c q.Formula q.Rooms (c.vs.drop 1) [] →
    F_l04_CodeForce_l1 (c, q) (daysF c q.Formula q.Rooms (c.vs.drop 1) [], 0) ys at' j = some (Sum.inr (daysF c q.Formula q.Rooms (c.vs.drop 1) []).length)
  | [], d, k, at', j, _, h2, h3 => by
    rw [F_l04_CodeForce_l1, ← h3, daysF, h2]
  | y :: ys, d, k, at', j, h1, h2, h3 => by
    obtain ⟨hy, hs⟩ := drop_get h1
    have hk : k < c.vs.length := by have := (List.getElem?_eq_some_iff.1 hy).1; omega
    have hz := List.getElem?_eq_getElem hk
    have b := ver_fr ((code_vs h.err).2.2 _ _ hy).1
    have b' := ver_fr ((code_vs h.err).2.2 _ _ hz).1
    have dlt := rise_fr h.err (k + 1) k _ y (by omega) hz hy
    have e1 := force_at h.err hy y.fr (by omega) fun w hw => rise_fr h.err (k + 1 + 1) (k + 1) y w (by omega) hy hw
    have e2 := force_at h.err hz (y.fr - 1) (by omega) fun w hw => by
      rw [hy] at hw
      obtain rfl := Option.some.inj hw
      omega
    have g1 := (end_at h.err h.f01 h.rooms hy (by omega) e1).1
    have g2 := (end_at h.err h.f01 h.rooms hz (day := y.fr - 1) (by omega) e2).1
    rw [F_l04_CodeForce_l1, wr_id (by omega)]
    simp only [judge_code, Option.bind_some, g1, g2, decide_true, Bool.not_true, cond_false]
    show cond (!sameC (judC c (y.fr - 1) q.Formula q.Rooms) (judC c y.fr q.Formula q.Rooms)) _ _ = _
    have hsym : sameC (judC c y.fr q.Formula q.Rooms) (judC c (y.fr - 1) q.Formula q.Rooms) = sameC (judC c (y.fr - 1) q.Formula q.Rooms) (judC c y.fr q.Formula q.Rooms) := by
      unfold sameC
      rw [decide_eq_decide.2 (eq_comm (a := (judC c y.fr q.Formula q.Rooms).1)), decide_eq_decide.2 (eq_comm (a := (judC c y.fr q.Formula q.Rooms).2))]
    rw [daysF, hsym] at h3
    cases hx : sameC (judC c (y.fr - 1) q.Formula q.Rooms) (judC c y.fr q.Formula q.Rooms) with
    | true =>
      rw [hx, if_pos rfl] at h3
      exact force_l1 h ys d (k + 1) at' (j + 1) hs h2 h3
    | false =>
      rw [hx, if_neg (by decide)] at h3
      obtain ⟨e, he⟩ := daysF_pre c q.Formula q.Rooms ys (d ++ [y.fr])
      have hD := h3.symm.trans he
      have hg : (daysF c q.Formula q.Rooms (c.vs.drop 1) [])[at']? = some y.fr := by
        rw [hD, List.append_assoc, List.getElem?_append_right (by omega), h2, Nat.sub_self]; rfl
      have hlt := (List.getElem?_eq_some_iff.1 hg).1
      simp only [Bool.not_false, cond_true]
      rw [decide_eq_false (by omega), hg]
      simp only [cond_false, Option.bind_some, decide_true, Bool.not_true]
      exact force_l1 h ys (d ++ [y.fr]) (k + 1) (at' + 1) (j + 1) hs (by simp only [List.length_append, List.length_singleton]; omega) h3
theorem force_l2 {c : Code} {q : T_Ask} (h : WldOk c q) : ∀ (ys : List Version) (d : List Int) (k at' j : Nat), c.vs.drop (k + 1) = ys → d.length = at' → daysF c q.Formula q.Rooms ys d = daysF c q.Formula q.Rooms (c.vs.drop 1) [] →
    F_l04_CodeForce_l2 (c, q) (daysF c q.Formula q.Rooms (c.vs.drop 1) [], 0) ys at' j = some (Sum.inr (daysF c q.Formula q.Rooms (c.vs.drop 1) []).length)
  | [], d, k, at', j, _, h2, h3 => by
    rw [F_l04_CodeForce_l2, ← h3, daysF, h2]
  | y :: ys, d, k, at', j, h1, h2, h3 => by
    obtain ⟨hy, hs⟩ := drop_get h1
    have hk : k < c.vs.length := by have := (List.getElem?_eq_some_iff.1 hy).1; omega
    have hz := List.getElem?_eq_getElem hk
    have b := ver_fr ((code_vs h.err).2.2 _ _ hy).1
    have b' := ver_fr ((code_vs h.err).2.2 _ _ hz).1
    have dlt := rise_fr h.err (k + 1) k _ y (by omega) hz hy
    have e1 := force_at h.err hy y.fr (by omega) fun w hw => rise_fr h.err (k + 1 + 1) (k + 1) y w (by omega) hy hw
    have e2 := force_at h.err hz (y.fr - 1) (by omega) fun w hw => by
      rw [hy] at hw
      obtain rfl := Option.some.inj hw
      omega
    have g1 := (end_at h.err h.f01 h.rooms hy (by omega) e1).1
    have g2 := (end_at h.err h.f01 h.rooms hz (day := y.fr - 1) (by omega) e2).1
    rw [F_l04_CodeForce_l2, wr_id (by omega)]
    simp only [judge_code, Option.bind_some, g1, g2, decide_true, Bool.not_true, cond_false]
    show cond (!sameC (judC c (y.fr - 1) q.Formula q.Rooms) (judC c y.fr q.Formula q.Rooms)) _ _ = _
    have hsym : sameC (judC c y.fr q.Formula q.Rooms) (judC c (y.fr - 1) q.Formula q.Rooms) = sameC (judC c (y.fr - 1) q.Formula q.Rooms) (judC c y.fr q.Formula q.Rooms) := by
      unfold sameC
      rw [decide_eq_decide.2 (eq_comm (a := (judC c y.fr q.Formula q.Rooms).1)), decide_eq_decide.2 (eq_comm (a := (judC c y.fr q.Formula q.Rooms).2))]
    rw [daysF, hsym] at h3
    cases hx : sameC (judC c (y.fr - 1) q.Formula q.Rooms) (judC c y.fr q.Formula q.Rooms) with
    | true =>
      rw [hx, if_pos rfl] at h3
      exact force_l2 h ys d (k + 1) at' (j + 1) hs h2 h3
    | false =>
      rw [hx, if_neg (by decide)] at h3
      obtain ⟨e, he⟩ := daysF_pre c q.Formula q.Rooms ys (d ++ [y.fr])
      have hD := h3.symm.trans he
      have hg : (daysF c q.Formula q.Rooms (c.vs.drop 1) [])[at']? = some y.fr := by
        rw [hD, List.append_assoc, List.getElem?_append_right (by omega), h2, Nat.sub_self]; rfl
      have hlt := (List.getElem?_eq_some_iff.1 hg).1
      simp only [Bool.not_false, cond_true]
      rw [decide_eq_false (by omega), hg]
      simp only [cond_false, Option.bind_some, decide_true, Bool.not_true]
      exact force_l2 h ys (d ++ [y.fr]) (k + 1) (at' + 1) (j + 1) hs (by simp only [List.length_append, List.length_singleton]; omega) h3
theorem force_in {c : Code} {q : T_Ask} (h : WldOk c q) : ∃ n y, forceI c q.Day = ((n : Nat) : Int) ∧ c.vs[n]? = some y ∧ y.fr ≤ q.Day ∧ F_code_InForce c q.Day = some ((n : Int), 0) := by
  obtain ⟨y0, hy0, hf0⟩ := h.first
  have hb := forceI_bd c q.Day
  have hd := h.day
  -- the version in force is there
  have key : ∀ (l : List Version) (k : Nat) (out : Int), (out < k ∧ (∀ n : Nat, out = n → ∃ y, (fun (m : Nat) => c.vs[m]?) n = some y ∧ y.fr ≤ q.Day)) → c.vs.drop k = l → -1 ≤ out → ∀ n : Nat, fiF q.Day l k out = n → ∃ y, c.vs[n]? = some y ∧ y.fr ≤ q.Day := by
    intro l
    induction l with
    | nil => intro k out ⟨_, h2⟩ _ _ n hn; exact h2 n hn
    | cons v l ih =>
      intro k out ⟨h1, h2⟩ hl ho n hn
      obtain ⟨hv, hs⟩ := drop_get hl
      rw [fiF] at hn
      refine ih (k + 1) _ ⟨?_, ?_⟩ hs ?_ n hn
      · split <;> omega
      · intro m hm
        split at hm
        · rename_i hle
          obtain rfl : m = k := by omega
          exact ⟨v, hv, hle⟩
        · exact h2 m hm
      · split <;> omega
  have hge : 0 ≤ forceI c q.Day := by
    refine Decidable.byContradiction fun hneg => ?_
    have h1 : forceI c q.Day = -1 := by omega
    have mono : ∀ (l : List Version) (k : Nat) (out : Int), 0 ≤ out → 0 ≤ fiF q.Day l k out := by
      intro l
      induction l with
      | nil => intro k out ho; exact ho
      | cons v l ih => intro k out ho; rw [fiF]; exact ih _ _ (by split <;> omega)
    unfold forceI at h1
    cases hvs : c.vs with
    | nil => rw [hvs] at hy0; cases hy0
    | cons v l =>
      rw [hvs] at hy0 h1
      obtain rfl := Option.some.inj hy0
      rw [fiF, if_pos hf0] at h1
      have := mono l (0 + 1) ((0 : Nat) : Int) (by omega)
      omega
  obtain ⟨n, hn⟩ : ∃ n : Nat, forceI c q.Day = n := ⟨(forceI c q.Day).toNat, by omega⟩
  obtain ⟨y, hy, hle⟩ := key c.vs 0 (-1) ⟨by omega, fun m hm => by omega⟩ rfl (by omega) n hn
  refine ⟨n, y, hn, hy, hle, ?_⟩
  obtain ⟨a, x1, x2⟩ := force_eq c q.Day
  rw [x1, ← x2]
  unfold F_r04_InForce
  rw [h.err, hn, within_lit (by omega), decide_eq_false (p := ((n : Nat) : Int) < 0) (by omega)]; rfl
theorem sameC_self (a : Int × Int) : sameC a a = true := by unfold sameC; rw [decide_eq_true rfl, decide_eq_true rfl]; rfl
theorem codeForce_true (l : List T_Raw) (x : T_Some) (w : T_Raw) : F_l04_CodeForce l x w = some true := by
  obtain ⟨c, q, hw, h⟩ := world_ok l x
  obtain ⟨n, y, hn, hy, hle, hin⟩ := force_in h
  have hd := h.day
  have hvl := h.vs.len
  have hnl := (List.getElem?_eq_some_iff.1 hy).1
  have hlk : c.vs.length - 1 < c.vs.length := by omega
  have hla := List.getElem?_eq_getElem hlk
  have hat : atI c.vs ((c.vs.length : Int) - 1) = some c.vs[c.vs.length - 1] := by rw [show ((c.vs.length : Int) - 1) = ((c.vs.length - 1 : Nat) : Int) from by omega, atI_nat, hla]
  have hlo := (h.vs.ok _ _ hla)
  have hlb := ver_fr hlo.1
  obtain ⟨v, hv, hvo, hv1, hv2⟩ := version_ok w c.vs[c.vs.length - 1].fr (by have := hlo.2.1; omega)
  have hlast : ∀ u, c.vs[c.vs.length - 1]? = some u → u.fr < v.fr := fun u hu => by
    rw [hla] at hu
    obtain rfl := Option.some.inj hu
    exact hv1
  have hyb := ver_fr ((code_vs h.err).2.2 _ _ hy).1
  have e1 : endE c q.Day q.Formula q.Rooms = 0 ∧ verF c q.Day = y := end_at h.err h.f01 h.rooms hy (by omega) hn
  have f2 : forceI c y.fr = n := force_at h.err hy y.fr (by omega) fun u hu => rise_fr h.err (n + 1) n y u (by omega) hy hu
  have e2 : endE c y.fr q.Formula q.Rooms = 0 ∧ verF c y.fr = y := end_at h.err h.f01 h.rooms hy (by omega) f2
  have hj : judC c q.Day q.Formula q.Rooms = judC c y.fr q.Formula q.Rooms := judC_ver e1.1 e2.1 (by rw [e1.2, e2.2])
  have hl1 := force_l1 h (c.vs.drop 1) [] 0 0 1 rfl rfl rfl
  have hl2 := force_l2 h (c.vs.drop 1) [] 0 0 1 rfl rfl rfl
  unfold F_l04_CodeForce
  rw [hw]
  simp only [Option.bind_some, hin, judge_code, e1.1, decide_true, Bool.not_true, cond_false]
  rw [decide_eq_false (p := ((n : Nat) : Int) < 0) (by omega), decide_eq_false (p := (c.vs.length : Int) ≤ (n : Int)) (by omega), atI_nat, hy, hat]
  simp only [cond_false, Option.bind_some, hv, amend_ok h.err hvo hvl.2 hlast, days_ok h.err h.f01 h.rooms, judge_code, e2.1, decide_true, Bool.not_true, hl1, hl2]
  show cond (!sameC (judC c q.Day q.Formula q.Rooms) (judC c y.fr q.Formula q.Rooms)) _ _ = _
  rw [hj, sameC_self]
  by_cases hdv : q.Day < v.fr
  · obtain ⟨m1, m2⟩ := more_judge h.err hvo hvl.2 hlast h.f01 h.rooms (day := q.Day) (by omega) hdv hy hn
    rw [decide_eq_true hdv, m1]
    simp only [Bool.not_true, cond_false, decide_true, cond_true]
    show cond (!sameC (judC (Code.mk c.name ((c.vs ++ [v]).map copV)) q.Day q.Formula q.Rooms) (judC c y.fr q.Formula q.Rooms)) _ _ = _
    rw [m2, hj, sameC_self]
    simp only [Bool.not_true, cond_false, decide_true, cond_true]
  · rw [decide_eq_false hdv]
    simp only [Bool.not_true, cond_false, decide_true, cond_true]
end Go.Proofs.YtjflgemfeofciaaGreatDoor
