import Derived.Test.YtjflgemfeofciaaGreatDoorRs4
import Derived.Test.YtjflgemfeofciaaGreatDoorWm4
import Derived.Test.YtjflgemfeofciaaGreatDoorMY2
import Derived.Test.YtjflgemfeofciaaGreatDoorMY6
/- Layer 4: the walk of CodeNarrows. -/
namespace Go.Proofs.YtjflgemfeofciaaGreatDoor
open Go Go.Ev
set_option linter.unusedVariables false
set_option linter.unusedSimpArgs false
set_option maxRecDepth 10000
structure L_l04_CodeNarrows_1 where
  b1_1 : Bool
  k1_2 : Nat
def F_l04_CodeNarrows_l1 (y15 : Room) : List Int → Bool → Nat → Option ((Bool))
  | [], b1_1, k1_2 => some (b1_1)
  | y1 :: ys1, b1_1, k1_2 => (cond b1_1 (F_l04_CodeNarrows_l1 y15 ys1 true (k1_2 + 1)) (F_l04_CodeNarrows_l1 y15 ys1 (decide (y1 = y15.id)) (k1_2 + 1)))
def F_l04_CodeNarrows (p0 : (List T_Raw)) (p1 : T_Some) (p2 : (Nat → Int)) : Option (Bool) := ((F_l04_world p0 p1).bind fun q3 => ((F_code_Judge q3.1 q3.2.Day q3.2.Formula q3.2.Rooms).bind fun q6 => ((F_code_Rests q3.1 q3.2.Day q3.2.Formula q3.2.Rooms).bind fun q8 => (cond (!(decide (q6.2 = 0))) (some false) ((cond (!(decide (q8.2 = 0))) (some false) ((cond (decide ((q3.2.Rooms.length : Int) = 0)) ((cond (decide ((q8.1.length : Int) = 0)) (some true) (some false))) (((F_r01_Mod (p2 0) (q3.2.Rooms.length : Int)).bind fun q14 => ((atI q3.2.Rooms q14).bind fun y15 => ((F_r01_Mod (p2 1) (wr ((wr (y15.hi - y15.lo)) + 1))).bind fun q17 => ((F_r04_Only q3.2.Rooms q14 (wr (y15.lo + q17))).bind fun q18 => ((F_code_Judge q3.1 q3.2.Day q3.2.Formula q18).bind fun q19 => ((F_r04_Only q3.2.Rooms q14 y15.lo).bind fun q22 => ((F_code_Judge q3.1 q3.2.Day q3.2.Formula q22).bind fun q23 => ((F_r04_Only q3.2.Rooms q14 y15.hi).bind fun q26 => ((F_code_Judge q3.1 q3.2.Day q3.2.Formula q26).bind fun q27 => (cond (!(decide (q19.2 = 0))) (some false) ((cond (!(decide (q23.2 = 0))) (some false) ((cond (!(decide (q27.2 = 0))) (some false) ((cond (decide (q19.1.1 < q6.1.1)) (some false) ((cond (decide (q6.1.2 < q19.1.2)) (some false) (((F_l04_CodeNarrows_l1 y15 q8.1 false 0).bind fun o1_0_1 => (cond (!((decide (q23.1.1 = q6.1.1)) && ((decide (q23.1.2 = q6.1.2)) && true))) ((cond (decide (o1_0_1 = true)) (some true) (some false))) ((cond (decide (o1_0_1 = (!((decide (q27.1.1 = q6.1.1)) && ((decide (q27.1.2 = q6.1.2)) && true))))) (some true) (some false)))))))))))))))))))))))))))))))))
set_option maxHeartbeats 1000000 in
theorem F_l04_CodeNarrows_ok (p0 : (List T_Raw)) (p1 : T_Some) (p2 : (Nat → Int)) (v0_0 : V) (cs1 : List V) (g : G) (h0_0 : RS R_Raw 3 g v0_0 p0) (h1 : R_Some g cs1 p1) (r : Bool) (hF : F_l04_CodeNarrows p0 p1 p2 = some r) : Fv Tryz.prog natS (.f 8 [] []) [v0_0, .agg cs1, .agg [.i .i64 (p2 0), .i .i64 (p2 1)]] g (.b r) := by
  refine Fw.fv ?_
  unfold F_l04_CodeNarrows at hF
  have lh0_0 := h0_0.1
  obtain ⟨v2_q1, rfl, h2_q1⟩ := h1
  have lh1_2 := h2_q1.1
  refine Fw.enter (N := 191) (al := [(2, _), (1, _), (0, _)]) Tryz.func8 (by kernel_rfl) (by kernel_rfl) rfl rfl rfl rfl ?_
  intro B
  refine .seq <| .region rfl <| .box .no rfl rfl rfl rfl fun b1 => .box .no rfl rfl rfl rfl fun b2 => .z rfl rfl <| .nil <| sq_n <| .seq <| .region rfl <| .m rfl rfl <| .ld .no rfl (.a (vs := [_, _, _]) rfl (.tl .hd) a_75 s_75 rfl rfl) ?_
  obtain ⟨q3, hq3, hF⟩ := bS hF
  refine .call .no rfl rfl rfl (F_l04_world_ok p0 p1 _ _ _ h0_0 ⟨_, rfl, h2_q1⟩ _ hq3) ?_
  rintro g3 ml3 r3 hle3 ⟨rfl, cs3_0, cs3_1, rfl, ⟨v3_0, rfl, hc3_0⟩, ⟨v2_3_1, rfl, h2_3_1⟩⟩
  have lh3_0_1 := hc3_0.1
  have lh3_1_2 := h2_3_1.1
  refine .m rfl rfl <| .p .no rfl (.ext rfl rfl) <| .p .no rfl (.ext rfl rfl) <| .alloc .no rfl z_24 fun b4 => .alloc .no rfl z_37 fun b5 => .st (cs' := [_, _]) .no rfl rfl rfl rfl s_24 rfl rfl (.tl .hd) rfl (allOne_cons rfl (allOne_cons hc3_0.one rfl)) <| .st (cs' := [_, _, _]) .no rfl rfl rfl rfl s_37 rfl rfl .hd rfl (allOne_cons rfl (allOne_cons rfl (allOne_cons h2_3_1.one rfl))) <| .nil <| sq_n <| .seq <| .region rfl <| .ld .no rfl (.a (vs := [_, _]) rfl (.tl .hd) a_24 s_24 rfl rfl) <| .p .no rfl (.fa rfl f_37_0) <| .ld .no rfl (.s rfl .hd a_3 rfl) <| .p .no rfl (.fa rfl f_37_1) <| .ld .no rfl (.s rfl .hd a_3 rfl) <| .p .no rfl (.fa rfl f_37_2) <| .ld .no rfl (.s rfl .hd a_25 rfl) ?_
  obtain ⟨q6, hq6, hF⟩ := bS hF
  refine .callV .no rfl rfl rfl (F_code_Judge_ok q3.1 q3.2.Day q3.2.Formula q3.2.Rooms _ _ _ ⟨_, rfl, hc3_0⟩ h2_3_1 _ hq6) <| .m rfl rfl <| .p .no rfl (.ext rfl rfl) <| .p .no rfl (.ext rfl rfl) <| .alloc .no rfl z_27 fun b7 => .st (cs' := [_, _]) .no rfl rfl rfl rfl s_27 rfl rfl .hd rfl rfl <| .z rfl rfl <| .nil <| sq_n <| .seq <| .region rfl <| .ld .no rfl (.a (vs := [_, _]) rfl (.tl (.tl .hd)) a_24 s_24 rfl rfl) <| .p .no rfl (.fa rfl f_37_0) <| .ld .no rfl (.s rfl (.tl .hd) a_3 rfl) <| .p .no rfl (.fa rfl f_37_1) <| .ld .no rfl (.s rfl (.tl .hd) a_3 rfl) <| .p .no rfl (.fa rfl f_37_2) <| .ld .no rfl (.s rfl (.tl .hd) a_25 rfl) ?_
  obtain ⟨q8, hq8, hF⟩ := bS hF
  refine .call .no rfl rfl rfl (F_code_Rests_ok q3.1 q3.2.Day q3.2.Formula q3.2.Rooms _ _ _ ⟨_, rfl, hc3_0⟩ h2_3_1 _ hq8) ?_
  rintro g8 ml8 r8 hle8 ⟨rfl, w8_0_0, rfl, hw8_0_0⟩
  replace hc3_0 := hc3_0.mono VersionR.mono hle8
  replace h2_3_1 := h2_3_1.mono RoomR.mono hle8
  have lhw8_0_0 := hw8_0_0.1
  refine .m rfl rfl <| .p .no rfl (.ext rfl rfl) <| .p .no rfl (.ext rfl rfl) <| .z rfl rfl <| .z rfl rfl <| .nil <| sq_n <| .seq <| .seq <| .region rfl <| .m rfl rfl <| .b rfl rfl rfl rfl <| .m rfl rfl <| .split (t := 53) rfl (fun h9 => ?_) (fun h9 => ?_)
  ·have kh9 := dF (nT h9)
   have hF := cT h9 hF
   refine .skip (.yes rfl rfl h9) rfl <| .skip (.yes rfl rfl h9) rfl <| .p .no rfl (.pickT rfl h9 rfl) <| .nil <| sq_n <| .condT rfl rfl <| .seq <| .region rfl <| .z rfl rfl <| .nil <| sq_n <| .ret <| sq_r ?_
   obtain rfl := sI hF
   refine retQ_r (hle3.trans hle8) (.tmp rfl .nil) rfl ?_
   rfl
  ·have kh9 := dT (nF h9)
   have hF := cF h9 hF
   refine .p (.yes rfl rfl h9) rfl (.move rfl) <| .p (.yes rfl rfl h9) rfl (.bin rfl rfl rfl) <| .p .no rfl (.pickF rfl h9 rfl) <| .nil <| sq_n <| .cond rfl (fun h10 => ?_) (fun h10 => ?_)
   ·have kh10 := dF (nT h10)
    have hF := cT h10 hF
    refine .seq <| .region rfl <| .z rfl rfl <| .nil <| sq_n <| .ret <| sq_r ?_
    obtain rfl := sI hF
    refine retQ_r (hle3.trans hle8) (.tmp rfl .nil) rfl ?_
    rfl
   ·have kh10 := dT (nF h10)
    have hF := cF h10 hF
    refine .skip <| sq_n <| .seq <| .seq <| .region rfl <| .p .no rfl (.fa rfl f_37_2) <| .ld .no rfl (.s rfl (.tl .hd) a_25 rfl) <| .p .no rfl (.lenR rfl rfl rfl e_25 h2_3_1) <| .b rfl rfl rfl rfl <| .nil <| sq_n <| .cond rfl (fun h11 => ?_) (fun h11 => ?_)
    ·have kh11 := dT h11
     have hF := cT h11 hF
     refine .seq <| .region rfl <| .m rfl rfl <| .p .no rfl (.lenR rfl rfl rfl e_66 hw8_0_0) <| .b rfl rfl rfl rfl <| .m rfl rfl <| .split (t := 64) rfl (fun h12 => ?_) (fun h12 => ?_)
     ·have kh12 := dT h12
      have hF := cT h12 hF
      refine .callV (.yes rfl rfl h12) rfl rfl rfl (sane_ok _) <| .p .no rfl (.pickT rfl h12 rfl) <| .z rfl rfl <| .nil <| sq_n <| .ret <| sq_r ?_
      obtain rfl := sI hF
      refine retQ_r (hle3.trans hle8) (.tmp rfl .nil) rfl ?_
      rfl
     ·have kh12 := dF h12
      have hF := cF h12 hF
      refine .skip (.yes rfl rfl h12) rfl <| .p .no rfl (.pickF rfl h12 rfl) <| .z rfl rfl <| .nil <| sq_n <| .ret <| sq_r ?_
      obtain rfl := sI hF
      refine retQ_r (hle3.trans hle8) (.tmp rfl .nil) rfl ?_
      rfl
    ·have kh11 := dF h11
     have hF := cF h11 hF
     refine .skip <| sq_n <| .seq <| .region rfl <| .p .no rfl (.ixa (j := 0) rfl rfl ae_53 (by decide)) <| .ld .no rfl (.s rfl (.tl (.tl (.tl .hd))) a_3 rfl) <| .p .no rfl (.fa rfl f_37_2) <| .ld .no rfl (.s rfl (.tl .hd) a_25 rfl) <| .p .no rfl (.lenR rfl rfl rfl e_25 h2_3_1) ?_
     obtain ⟨q14, hq14, hF⟩ := bS hF
     refine .callV .no rfl rfl rfl (F_r01_Mod_ok (p2 0) (q3.2.Rooms.length : Int) _ _ hq14) <| .z rfl rfl <| .nil <| sq_n <| .seq <| .region rfl <| .p .no rfl (.fa rfl f_37_2) <| .ld .no rfl (.s rfl (.tl .hd) a_25 rfl) <| .m rfl rfl ?_
     obtain ⟨y15, hy15, hF⟩ := bS hF
     have hj15 := atI_lt hy15
     refine .ixl .no rfl rfl h2_3_1 rfl e_25 hy15 ?_
     rintro b15 o15 _ hq15 rfl
     refine .p .no rfl (.fa rfl f_29_4) <| .ld .no rfl (.pa 4 (vs := [_, _]) rfl hq15 rfl a_27 s_27 rfl rfl) <| .alloc .no rfl z_27 fun b16 => .st (cs' := [_, _]) .no rfl rfl rfl rfl s_27 rfl rfl .hd rfl rfl <| .nil <| sq_n <| .seq <| .draw (tb := [r0 0 0, r0 0 0, r0 2 0, r0 0 0, r0 8 0, r0 0 0, r0 32 0, r0 0 0, r0 0 0, r0 256 0, r0 0 0, r0 1024 0, r0 0 0, r0 4096 0, r0 0 0, r0 16384 0, r0 61440 0, r0 126976 0, r0 261120 0, r0 524032 1, r0 1048544 1, r1 2097151 2, r1 4194303 3, r1 8388607 3, r1 8388607 3, r0 0 0, r1 50331647 3, r1 134217727 4]) rfl (by kernel_rfl) (by kernel_rfl) ?_
     refine .y rfl rfl rfl (.a (vs := [_, _]) rfl (.tl (.tl (.tl .hd))) a_24 s_24 rfl rfl) <| .p .no rfl (.fa rfl f_37_0) rfl rfl rfl <| .y rfl rfl rfl (.s rfl (.tl (.tl .hd)) a_3 rfl) <| .p .no rfl (.fa rfl f_37_1) rfl rfl rfl <| .y rfl rfl rfl (.s rfl (.tl (.tl .hd)) a_3 rfl) <| .p .no rfl (.fa rfl f_37_2) rfl rfl rfl <| .y rfl rfl rfl (.s rfl (.tl (.tl .hd)) a_25 rfl) <| .m rfl rfl <| .p .no rfl (.fa rfl f_27_0) rfl rfl rfl <| .y rfl rfl rfl (.s rfl .hd a_3 rfl) <| .p .no rfl (.ixa (j := 1) rfl rfl ae_53 (by decide)) rfl rfl rfl <| .y rfl rfl rfl (.s rfl (.tl (.tl (.tl (.tl .hd)))) a_3 rfl) <| .p .no rfl (.fa rfl f_27_1) rfl rfl rfl <| .y rfl rfl rfl (.s rfl .hd a_3 rfl) <| .p .no rfl (.fa rfl f_27_0) rfl rfl rfl <| .y rfl rfl rfl (.s rfl .hd a_3 rfl) <| .b rfl rfl rfl rfl <| .b rfl rfl rfl rfl ?_
     obtain ⟨q17, hq17, hF⟩ := bS hF
     refine .callV .no rfl rfl rfl rfl rfl (F_r01_Mod_ok (p2 1) (wr ((wr (y15.hi - y15.lo)) + 1)) _ _ hq17) <| .b rfl rfl rfl rfl ?_
     obtain ⟨q18, hq18, hF⟩ := bS hF
     refine .call .no rfl rfl rfl rfl rfl (F_r04_Only_ok q3.2.Rooms q14 (wr (y15.lo + q17)) _ _ h2_3_1 _ hq18) ?_
     rintro g18 ml18 r18 hle18 ⟨cs18_0, w18_0, rfl, rfl, ha18_0⟩
     replace hc3_0 := hc3_0.mono VersionR.mono hle18
     replace h2_3_1 := h2_3_1.mono RoomR.mono hle18
     replace hw8_0_0 := hw8_0_0.mono IntR.mono hle18
     have lha18_0 := ha18_0.le
     refine .see (seeFreeze RoomR.mono .hd (by decide) ha18_0) ?_
     rintro gz20 ⟨hle20, hz20⟩
     replace hc3_0 := hc3_0.mono VersionR.mono hle20
     replace h2_3_1 := h2_3_1.mono RoomR.mono hle20
     replace hw8_0_0 := hw8_0_0.mono IntR.mono hle20
     obtain ⟨q19, hq19, hF⟩ := bS hF
     refine .callV .no rfl rfl rfl rfl rfl (F_code_Judge_ok q3.1 q3.2.Day q3.2.Formula q18 _ _ _ ⟨_, rfl, hc3_0⟩ hz20 _ hq19) <| .m rfl rfl <| .p .no rfl (.ext rfl rfl) rfl rfl rfl <| .p .no rfl (.ext rfl rfl) rfl rfl rfl <| .f .no rfl (.alloc z_27) fun b21 => .st (cs' := [_, _]) .no (pinF_t rfl pinF_n) (restA_t rfl restA_n) rfl rfl rfl rfl s_27 rfl rfl .hd rfl rfl (.all (allA_c rfl (allA_c rfl (allA_c rfl (allA_c rfl (allA_c rfl (allA_c rfl (allA_c rfl (allA_c rfl rfl))))))))) <| .z rfl rfl <| .nil <| sq_n <| .seq <| .draw (tb := [r0 0 0, r0 0 0, r0 2 0, r0 0 0, r0 8 0, r0 0 0, r0 32 0, r0 0 0, r0 0 0, r0 256 0, r0 992 0, r1 2047 1, r1 4095 2, r1 8191 2, r1 8191 2, r0 0 0, r1 49151 2, r1 131071 3]) rfl (by kernel_rfl) (by kernel_rfl) ?_
     refine .y rfl rfl rfl (.a (vs := [_, _]) rfl (.tl (.tl (.tl (.tl .hd)))) a_24 s_24 rfl rfl) <| .p .no rfl (.fa rfl f_37_0) rfl rfl rfl <| .y rfl rfl rfl (.s rfl (.tl (.tl (.tl .hd))) a_3 rfl) <| .p .no rfl (.fa rfl f_37_1) rfl rfl rfl <| .y rfl rfl rfl (.s rfl (.tl (.tl (.tl .hd))) a_3 rfl) <| .p .no rfl (.fa rfl f_37_2) rfl rfl rfl <| .y rfl rfl rfl (.s rfl (.tl (.tl (.tl .hd))) a_25 rfl) <| .m rfl rfl <| .p .no rfl (.fa rfl f_27_0) rfl rfl rfl <| .y rfl rfl rfl (.s rfl (.tl .hd) a_3 rfl) ?_
     obtain ⟨q22, hq22, hF⟩ := bS hF
     refine .call .no rfl rfl rfl rfl rfl (F_r04_Only_ok q3.2.Rooms q14 y15.lo _ _ h2_3_1 _ hq22) ?_
     rintro g22 ml22 r22 hle22 ⟨cs22_0, w22_0, rfl, rfl, ha22_0⟩
     replace hc3_0 := hc3_0.mono VersionR.mono hle22
     replace h2_3_1 := h2_3_1.mono RoomR.mono hle22
     replace hw8_0_0 := hw8_0_0.mono IntR.mono hle22
     have lha22_0 := ha22_0.le
     refine .see (seeFreeze RoomR.mono .hd (by decide) ha22_0) ?_
     rintro gz24 ⟨hle24, hz24⟩
     replace hc3_0 := hc3_0.mono VersionR.mono hle24
     replace h2_3_1 := h2_3_1.mono RoomR.mono hle24
     replace hw8_0_0 := hw8_0_0.mono IntR.mono hle24
     obtain ⟨q23, hq23, hF⟩ := bS hF
     refine .callV .no rfl rfl rfl rfl rfl (F_code_Judge_ok q3.1 q3.2.Day q3.2.Formula q22 _ _ _ ⟨_, rfl, hc3_0⟩ hz24 _ hq23) <| .m rfl rfl <| .p .no rfl (.ext rfl rfl) rfl rfl rfl <| .p .no rfl (.ext rfl rfl) rfl rfl rfl <| .f .no rfl (.alloc z_27) fun b25 => .st (cs' := [_, _]) .no (pinF_t rfl pinF_n) (restA_t rfl restA_n) rfl rfl rfl rfl s_27 rfl rfl .hd rfl rfl (.all (allA_c rfl (allA_c rfl (allA_c rfl (allA_c rfl (allA_c rfl rfl)))))) <| .z rfl rfl <| .nil <| sq_n <| .seq <| .draw (tb := [r0 0 0, r0 0 0, r0 2 0, r0 0 0, r0 8 0, r0 0 0, r0 32 0, r0 0 0, r0 0 0, r0 256 0, r0 992 0, r1 2047 1, r1 4095 2, r1 8191 2, r1 8191 2, r0 0 0, r1 49151 2, r1 131071 3]) rfl (by kernel_rfl) (by kernel_rfl) ?_
     refine .y rfl rfl rfl (.a (vs := [_, _]) rfl (.tl (.tl (.tl (.tl (.tl .hd))))) a_24 s_24 rfl rfl) <| .p .no rfl (.fa rfl f_37_0) rfl rfl rfl <| .y rfl rfl rfl (.s rfl (.tl (.tl (.tl (.tl .hd)))) a_3 rfl) <| .p .no rfl (.fa rfl f_37_1) rfl rfl rfl <| .y rfl rfl rfl (.s rfl (.tl (.tl (.tl (.tl .hd)))) a_3 rfl) <| .p .no rfl (.fa rfl f_37_2) rfl rfl rfl <| .y rfl rfl rfl (.s rfl (.tl (.tl (.tl (.tl .hd)))) a_25 rfl) <| .m rfl rfl <| .p .no rfl (.fa rfl f_27_1) rfl rfl rfl <| .y rfl rfl rfl (.s rfl (.tl (.tl .hd)) a_3 rfl) ?_
     obtain ⟨q26, hq26, hF⟩ := bS hF
     refine .call .no rfl rfl rfl rfl rfl (F_r04_Only_ok q3.2.Rooms q14 y15.hi _ _ h2_3_1 _ hq26) ?_
     rintro g26 ml26 r26 hle26 ⟨cs26_0, w26_0, rfl, rfl, ha26_0⟩
     replace hc3_0 := hc3_0.mono VersionR.mono hle26
     replace h2_3_1 := h2_3_1.mono RoomR.mono hle26
     replace hw8_0_0 := hw8_0_0.mono IntR.mono hle26
     have lha26_0 := ha26_0.le
     refine .see (seeFreeze RoomR.mono .hd (by decide) ha26_0) ?_
     rintro gz28 ⟨hle28, hz28⟩
     replace hc3_0 := hc3_0.mono VersionR.mono hle28
     replace h2_3_1 := h2_3_1.mono RoomR.mono hle28
     replace hw8_0_0 := hw8_0_0.mono IntR.mono hle28
     obtain ⟨q27, hq27, hF⟩ := bS hF
     refine .callV .no rfl rfl rfl rfl rfl (F_code_Judge_ok q3.1 q3.2.Day q3.2.Formula q26 _ _ _ ⟨_, rfl, hc3_0⟩ hz28 _ hq27) <| .m rfl rfl <| .p .no rfl (.ext rfl rfl) rfl rfl rfl <| .p .no rfl (.ext rfl rfl) rfl rfl rfl <| .f .no rfl (.alloc z_27) fun b29 => .st (cs' := [_, _]) .no (pinF_t rfl pinF_n) (restA_t rfl restA_n) rfl rfl rfl rfl s_27 rfl rfl .hd rfl rfl (.all (allA_c rfl (allA_c rfl (allA_c rfl (allA_c rfl (allA_c rfl rfl)))))) <| .z rfl rfl <| .nil <| sq_n <| .seq <| .seq <| .region rfl <| .m rfl rfl <| .b rfl rfl rfl rfl <| .m rfl rfl <| .split (t := 136) rfl (fun h30 => ?_) (fun h30 => ?_)
     ·have kh30 := dF (nT h30)
      have hF := cT h30 hF
      refine .skip (.yes rfl rfl h30) rfl <| .skip (.yes rfl rfl h30) rfl <| .p .no rfl (.pickT rfl h30 rfl) <| .m rfl rfl <| .skip (.yes rfl rfl rfl) rfl <| .skip (.yes rfl rfl rfl) rfl <| .p .no rfl (.pickT rfl rfl rfl) <| .m rfl rfl <| .skip (.yes rfl rfl rfl) rfl <| .skip (.yes rfl rfl rfl) rfl <| .skip (.yes rfl rfl rfl) rfl <| .skip (.yes rfl rfl rfl) rfl <| .skip (.yes rfl rfl rfl) rfl <| .p .no rfl (.pickT rfl rfl rfl) <| .m rfl rfl <| .skip (.yes rfl rfl rfl) rfl <| .skip (.yes rfl rfl rfl) rfl <| .skip (.yes rfl rfl rfl) rfl <| .skip (.yes rfl rfl rfl) rfl <| .skip (.yes rfl rfl rfl) rfl <| .p .no rfl (.pickT rfl rfl rfl) <| .nil <| sq_n <| .condT rfl rfl <| .seq <| .region rfl <| .z rfl rfl <| .nil <| sq_n <| .ret <| sq_r ?_
      obtain rfl := sI hF
      refine retQ_r (((((((hle3.trans hle8).trans hle18).trans hle20).trans hle22).trans hle24).trans hle26).trans hle28) (.tmp rfl .nil) rfl ?_
      rfl
     ·have kh30 := dT (nF h30)
      have hF := cF h30 hF
      refine .p (.yes rfl rfl h30) rfl (.move rfl) <| .p (.yes rfl rfl h30) rfl (.bin rfl rfl rfl) <| .p .no rfl (.pickF rfl h30 rfl) <| .m rfl rfl <| .split (t := 140) rfl (fun h31 => ?_) (fun h31 => ?_)
      ·have kh31 := dF (nT h31)
       have hF := cT h31 hF
       refine .skip (.yes rfl rfl h31) rfl <| .skip (.yes rfl rfl h31) rfl <| .p .no rfl (.pickT rfl h31 rfl) <| .m rfl rfl <| .skip (.yes rfl rfl rfl) rfl <| .skip (.yes rfl rfl rfl) rfl <| .skip (.yes rfl rfl rfl) rfl <| .skip (.yes rfl rfl rfl) rfl <| .skip (.yes rfl rfl rfl) rfl <| .p .no rfl (.pickT rfl rfl rfl) <| .m rfl rfl <| .skip (.yes rfl rfl rfl) rfl <| .skip (.yes rfl rfl rfl) rfl <| .skip (.yes rfl rfl rfl) rfl <| .skip (.yes rfl rfl rfl) rfl <| .skip (.yes rfl rfl rfl) rfl <| .p .no rfl (.pickT rfl rfl rfl) <| .nil <| sq_n <| .condT rfl rfl <| .seq <| .region rfl <| .z rfl rfl <| .nil <| sq_n <| .ret <| sq_r ?_
       obtain rfl := sI hF
       refine retQ_r (((((((hle3.trans hle8).trans hle18).trans hle20).trans hle22).trans hle24).trans hle26).trans hle28) (.tmp rfl .nil) rfl ?_
       rfl
      ·have kh31 := dT (nF h31)
       have hF := cF h31 hF
       refine .p (.yes rfl rfl h31) rfl (.move rfl) <| .p (.yes rfl rfl h31) rfl (.bin rfl rfl rfl) <| .p .no rfl (.pickF rfl h31 rfl) <| .m rfl rfl <| .split (t := 144) rfl (fun h32 => ?_) (fun h32 => ?_)
       ·have kh32 := dF (nT h32)
        have hF := cT h32 hF
        refine .skip (.yes rfl rfl h32) rfl <| .skip (.yes rfl rfl h32) rfl <| .skip (.yes rfl rfl h32) rfl <| .skip (.yes rfl rfl h32) rfl <| .skip (.yes rfl rfl h32) rfl <| .p .no rfl (.pickT rfl h32 rfl) <| .m rfl rfl <| .skip (.yes rfl rfl rfl) rfl <| .skip (.yes rfl rfl rfl) rfl <| .skip (.yes rfl rfl rfl) rfl <| .skip (.yes rfl rfl rfl) rfl <| .skip (.yes rfl rfl rfl) rfl <| .p .no rfl (.pickT rfl rfl rfl) <| .nil <| sq_n <| .condT rfl rfl <| .seq <| .region rfl <| .z rfl rfl <| .nil <| sq_n <| .ret <| sq_r ?_
        obtain rfl := sI hF
        refine retQ_r (((((((hle3.trans hle8).trans hle18).trans hle20).trans hle22).trans hle24).trans hle26).trans hle28) (.tmp rfl .nil) rfl ?_
        rfl
       ·have kh32 := dT (nF h32)
        have hF := cF h32 hF
        refine .p (.yes rfl rfl h32) rfl (.fa rfl f_27_0) <| .ld (.yes rfl rfl h32) rfl (.s rfl (.tl (.tl .hd)) a_3 rfl) <| .p (.yes rfl rfl h32) rfl (.fa rfl f_27_0) <| .ld (.yes rfl rfl h32) rfl (.s rfl (.tl (.tl (.tl (.tl .hd)))) a_3 rfl) <| .p (.yes rfl rfl h32) rfl (.bin rfl rfl rfl) <| .p .no rfl (.pickF rfl h32 rfl) <| .m rfl rfl <| .split (t := 151) rfl (fun h33 => ?_) (fun h33 => ?_)
        ·have kh33 := dT h33
         have hF := cT h33 hF
         refine .skip (.yes rfl rfl h33) rfl <| .skip (.yes rfl rfl h33) rfl <| .skip (.yes rfl rfl h33) rfl <| .skip (.yes rfl rfl h33) rfl <| .skip (.yes rfl rfl h33) rfl <| .p .no rfl (.pickT rfl h33 rfl) <| .nil <| sq_n <| .condT rfl rfl <| .seq <| .region rfl <| .z rfl rfl <| .nil <| sq_n <| .ret <| sq_r ?_
         obtain rfl := sI hF
         refine retQ_r (((((((hle3.trans hle8).trans hle18).trans hle20).trans hle22).trans hle24).trans hle26).trans hle28) (.tmp rfl .nil) rfl ?_
         rfl
        ·have kh33 := dF h33
         have hF := cF h33 hF
         refine .p (.yes rfl rfl h33) rfl (.fa rfl f_27_1) <| .ld (.yes rfl rfl h33) rfl (.s rfl (.tl (.tl .hd)) a_3 rfl) <| .p (.yes rfl rfl h33) rfl (.fa rfl f_27_1) <| .ld (.yes rfl rfl h33) rfl (.s rfl (.tl (.tl (.tl (.tl .hd)))) a_3 rfl) <| .p (.yes rfl rfl h33) rfl (.bin rfl rfl rfl) <| .p .no rfl (.pickF rfl h33 rfl) <| .nil <| sq_n <| .cond rfl (fun h34 => ?_) (fun h34 => ?_)
         ·have kh34 := dT h34
          have hF := cT h34 hF
          refine .seq <| .region rfl <| .z rfl rfl <| .nil <| sq_n <| .ret <| sq_r ?_
          obtain rfl := sI hF
          refine retQ_r (((((((hle3.trans hle8).trans hle18).trans hle20).trans hle22).trans hle24).trans hle26).trans hle28) (.tmp rfl .nil) rfl ?_
          rfl
         ·have kh34 := dF h34
          have hF := cF h34 hF
          refine .skip <| sq_n <| .seq <| .region rfl <| .z rfl rfl <| .nil <| sq_n <| .seq <| .seq <| .region rfl <| .z rfl rfl <| .nil <| sq_n <| .block ?_
          obtain ⟨o1, hF, hG1⟩ := bS hF
          refine .loopx (α := L_l04_CodeNarrows_1) [(8, _), (9, _), (11, _), (13, _), (17, _), (19, _)] _ (fun fx x => (21, .b x.b1_1) :: (22, .i .i64 (x.k1_2 : Int)) :: fx) (fun mx _ => mx) (fun x g' => x.k1_2 ≤ q8.1.length ∧ F_l04_CodeNarrows_l1 y15 (q8.1.drop x.k1_2) x.b1_1 x.k1_2 = some o1) (fun x => q8.1.length - x.k1_2) (L_l04_CodeNarrows_1.mk false 0) ⟨rfl, rfl, rfl, rfl, rfl, rfl, rfl, rfl, trivial⟩ (List.Sublist.refl _) ⟨(by first | omega | (dsimp only; omega)), hF⟩ ?_
          intro x1 gl1 hlo1 hJ1
          obtain ⟨b1_1, k1_2⟩ := x1
          try dsimp only at hJ1
          obtain ⟨hk1, hF⟩ := hJ1
          refine .al0 [(21, .b b1_1), (22, .i .i64 (k1_2 : Int)), (8, _), (9, _), (11, _), (13, _), (17, _), (19, _)] ?_
          replace h2_3_1 := h2_3_1.mono RoomR.mono hlo1
          replace hw8_0_0 := hw8_0_0.mono IntR.mono hlo1
          refine .seq <| .seq <| .region rfl <| .m rfl rfl <| .m rfl rfl <| .p .no rfl (.lenR rfl rfl rfl e_66 hw8_0_0) <| .b rfl rfl rfl rfl <| .nil <| sq_n <| .cond rfl (fun h35 => ?_) (fun h35 => ?_)
          ·have kh35 := dT h35
           obtain ⟨y1, hy1⟩ := getK (l := q8.1) (k := k1_2) kh35
           rw [dc hy1, F_l04_CodeNarrows_l1] at hF
           refine .skip <| sq_n <| .seq <| .block <| .draw (tb := [r1 0 0, r1 1 0, r0 3 0, r0 3 0, r0 15 0, r0 31 0, r0 3 0, r0 67 0, r0 3 0, r0 451 0, r0 963 0, r0 1987 0, r1 4095 0, r1 8191 0, r1 16383 0]) rfl (by kernel_rfl) (by kernel_rfl) ?_
           refine .m rfl rfl <| .m rfl rfl <| .split (t := 165) rfl (fun h36 => ?_) (fun h36 => ?_)
           ·have kh36 := h36
            have hF := cT h36 hF
            refine .skip (.yes rfl rfl h36) rfl rfl <| .skip (.yes rfl rfl h36) rfl rfl <| .skip (.yes rfl rfl h36) rfl rfl <| .skip (.yes rfl rfl h36) rfl rfl <| .skip (.yes rfl rfl h36) rfl rfl <| .skip (.yes rfl rfl h36) rfl rfl <| .skip (.yes rfl rfl h36) rfl rfl <| .skip (.yes rfl rfl h36) rfl rfl <| .skip (.yes rfl rfl h36) rfl rfl <| .skip (.yes rfl rfl h36) rfl rfl <| .skip (.yes rfl rfl h36) rfl rfl <| .p .no rfl (.pickT rfl h36 rfl) rfl rfl rfl <| .z rfl rfl <| .nil <| bq_n <| sq_n <| .region rfl <| .m rfl rfl <| .p .no rfl (.inc1 rfl rfl (by omega)) <| .z rfl rfl <| .nil <| loopQ_n (L_l04_CodeNarrows_1.mk true (k1_2 + 1)) ⟨rfl, rfl, rfl, rfl, rfl, rfl, rfl, rfl, trivial⟩ (List.Sublist.refl _) (Le.refl _) ?_ ?_
            ·exact ⟨(atN_lt hy1), hF⟩
            ·simp only; omega
           ·have kh36 := h36
            have hF := cF h36 hF
            refine .p (.yes rfl rfl h36) rfl (.move rfl) rfl rfl rfl <| .p (.yes rfl rfl h36) rfl (.move rfl) rfl rfl rfl <| .ixk (j := k1_2) (.yes rfl rfl h36) rfl rfl hw8_0_0 rfl e_66 hy1 ?_
            rintro b37 o37 _ hq37 rfl
            refine .ld (k := 0) (.yes rfl rfl h36) rfl rfl rfl trivial (.ps 0 rfl hq37 rfl a_3 rfl) <| .p (.yes rfl rfl h36) rfl (.fa rfl f_37_2) rfl rfl rfl <| .ld (k := 0) (.yes rfl rfl h36) rfl rfl rfl trivial (.s rfl (.tl (.tl (.tl (.tl (.tl .hd))))) a_25 rfl) <| .p (.yes rfl rfl h36) rfl (.move rfl) rfl rfl rfl <| .ixl (.yes rfl rfl h36) rfl rfl h2_3_1 rfl e_25 hy15 ?_
            rintro b38 o38 _ hq38 rfl
            refine .p (.yes rfl rfl h36) rfl (.fa rfl f_29_0) rfl rfl rfl <| .ld (k := 0) (.yes rfl rfl h36) rfl rfl rfl trivial (.ps 0 rfl hq38 rfl a_3 rfl) <| .p (.yes rfl rfl h36) rfl (.bin rfl rfl rfl) rfl rfl rfl <| .p .no rfl (.pickF rfl h36 rfl) rfl rfl rfl <| .z rfl rfl <| .nil <| bq_n <| sq_n <| .region rfl <| .m rfl rfl <| .p .no rfl (.inc1 rfl rfl (by omega)) <| .z rfl rfl <| .nil <| loopQ_n (L_l04_CodeNarrows_1.mk (decide (y1 = y15.id)) (k1_2 + 1)) ⟨rfl, rfl, rfl, rfl, rfl, rfl, rfl, rfl, trivial⟩ (List.Sublist.refl _) (Le.refl _) ?_ ?_
            ·exact ⟨(atN_lt hy1), hF⟩
            ·simp only; omega
          ·have kh35 := dF h35
           rw [dn (by omega), F_l04_CodeNarrows_l1] at hF
           obtain rfl := sI hF
           have hF := hG1
           refine .exit <| sq_e <| lq_e <| bq_x rfl <| sq_n <| .seq <| .region rfl <| .m rfl rfl <| .ld .no rfl (.a (vs := [_, _]) rfl (.tl .hd) a_27 s_27 rfl rfl) <| .ld .no rfl (.a (vs := [_, _]) rfl (.tl (.tl (.tl (.tl .hd)))) a_27 s_27 rfl rfl) <| .p .no rfl (.binE rfl rfl (binV_neq (by kernel_rfl) (eq_27 _ _ _ _))) ?_
           refine .m rfl rfl <| .split (t := 182) rfl (fun h39 => ?_) (fun h39 => ?_)
           ·have kh39 := (nT h39)
            have hF := cT h39 hF
            refine .skip (.yes rfl rfl h39) rfl <| .skip (.yes rfl rfl h39) rfl <| .skip (.yes rfl rfl h39) rfl <| .p .no rfl (.pickT rfl h39 rfl) <| .p .no rfl (.binE rfl rfl rfl) <| .m rfl rfl <| .split (t := 188) rfl (fun h40 => ?_) (fun h40 => ?_)
            ·have kh40 := dT h40
             have hF := cT h40 hF
             refine .callV (.yes rfl rfl h40) rfl rfl rfl (sane_ok _) <| .p .no rfl (.pickT rfl h40 rfl) <| .z rfl rfl <| .nil <| sq_n <| .ret ?_
             obtain rfl := sI hF
             refine retQ_r ((((((((hle3.trans hle8).trans hle18).trans hle20).trans hle22).trans hle24).trans hle26).trans hle28).trans hlo1) (.tmp rfl .nil) rfl ?_
             rfl
            ·have kh40 := dF h40
             have hF := cF h40 hF
             refine .skip (.yes rfl rfl h40) rfl <| .p .no rfl (.pickF rfl h40 rfl) <| .z rfl rfl <| .nil <| sq_n <| .ret ?_
             obtain rfl := sI hF
             refine retQ_r ((((((((hle3.trans hle8).trans hle18).trans hle20).trans hle22).trans hle24).trans hle26).trans hle28).trans hlo1) (.tmp rfl .nil) rfl ?_
             rfl
           ·have kh39 := (nF h39)
            have hF := cF h39 hF
            refine .ld (.yes rfl rfl h39) rfl (.a (vs := [_, _]) rfl .hd a_27 s_27 rfl rfl) <| .ld (.yes rfl rfl h39) rfl (.a (vs := [_, _]) rfl (.tl (.tl (.tl (.tl .hd)))) a_27 s_27 rfl rfl) <| .p (.yes rfl rfl h39) rfl (.binE rfl rfl (binV_neq (by kernel_rfl) (eq_27 _ _ _ _))) ?_
            refine .p .no rfl (.pickF rfl h39 rfl) <| .p .no rfl (.binE rfl rfl rfl) <| .m rfl rfl <| .split (t := 188) rfl (fun h42 => ?_) (fun h42 => ?_)
            ·have kh42 := dT h42
             have hF := cT h42 hF
             refine .callV (.yes rfl rfl h42) rfl rfl rfl (sane_ok _) <| .p .no rfl (.pickT rfl h42 rfl) <| .z rfl rfl <| .nil <| sq_n <| .ret ?_
             obtain rfl := sI hF
             refine retQ_r ((((((((hle3.trans hle8).trans hle18).trans hle20).trans hle22).trans hle24).trans hle26).trans hle28).trans hlo1) (.tmp rfl .nil) rfl ?_
             rfl
            ·have kh42 := dF h42
             have hF := cF h42 hF
             refine .skip (.yes rfl rfl h42) rfl <| .p .no rfl (.pickF rfl h42 rfl) <| .z rfl rfl <| .nil <| sq_n <| .ret ?_
             obtain rfl := sI hF
             refine retQ_r ((((((((hle3.trans hle8).trans hle18).trans hle20).trans hle22).trans hle24).trans hle26).trans hle28).trans hlo1) (.tmp rfl .nil) rfl ?_
             rfl
end Go.Proofs.YtjflgemfeofciaaGreatDoor

/- Layer 4: where a line is least and greatest within a range; narrower ranges (plain law). -/
namespace Go.Proofs.YtjflgemfeofciaaGreatDoor
open Go Go.Ev
set_option linter.unusedVariables false
set_option linter.unusedSimpArgs false
theorem exG_le (f : Int → Int) (a : Int × Int) (n : Int) : f (exG f a n).1 ≤ f a.1 ∧ f (exG f a n).1 ≤ f n ∧ f a.2 ≤ f (exG f a n).2 ∧ f n ≤ f (exG f a n).2 := by
  unfold exG
  dsimp only
  split <;> split <;> omega
theorem exS_le (f : Int → Int) (a c : Int × Int) : (f (exS f a c).1 ≤ f a.1 ∧ f a.2 ≤ f (exS f a c).2) ∧ f (exS f a c).1 ≤ f c.1 ∧ f (exS f a c).1 ≤ f c.2 ∧ f c.1 ≤ f (exS f a c).2 ∧ f c.2 ≤ f (exS f a c).2 := by
  unfold exS
  have h1 := exG_le f a c.1
  have h2 := exG_le f (exG f a c.1) c.2
  omega
theorem exS_fold (f : Int → Int) : ∀ (L : List (Int × Int)) (a : Int × Int), (f (L.foldl (exS f) a).1 ≤ f a.1 ∧ f a.2 ≤ f (L.foldl (exS f) a).2) ∧ ∀ c ∈ L, f (L.foldl (exS f) a).1 ≤ f c.1 ∧ f (L.foldl (exS f) a).1 ≤ f c.2 ∧ f c.1 ≤ f (L.foldl (exS f) a).2 ∧ f c.2 ≤ f (L.foldl (exS f) a).2
  | [], a => ⟨⟨Int.le_refl _, Int.le_refl _⟩, fun c h => by cases h⟩
  | x :: L, a => by
    rw [List.foldl_cons]
    obtain ⟨⟨h1, h2⟩, h3⟩ := exS_fold f L (exS f a x)
    have h4 := exS_le f a x
    refine ⟨by omega, fun c hc => ?_⟩
    rcases List.mem_cons.1 hc with rfl | hc
    · omega
    · exact h3 c hc
/-- each number of a range lies in a cell, on which the line is one piece. -/
theorem clL_cover {lo hi n : Int} (h : lo ≤ n ∧ n ≤ hi) : ∀ (r : List Piece) (p : Piece), riseP (p :: r) → p.fr ≤ n → ∃ c ∈ clL lo hi (p :: r), (c.1 ≤ n ∧ n ≤ c.2) ∧ p.fr ≤ c.1 ∧ lo ≤ c.1 ∧ c.2 ≤ hi ∧ ∃ q ∈ p :: r, ∀ m, c.1 ≤ m → m ≤ c.2 → rvF m r (p.val m) = q.val m
  | [], p, _, hp => by
    rw [clL, if_pos (by omega)]
    exact ⟨_, List.mem_singleton.2 rfl, ⟨by dsimp only; omega, h.2⟩, by dsimp only; omega, by dsimp only; omega, Int.le_refl _, p, List.mem_singleton.2 rfl, fun m _ _ => rfl⟩
  | q :: r, p, hr, hp => by
    rw [clL]
    by_cases hq : q.fr ≤ n
    · obtain ⟨c, h1, h2, h3, h4, h5, u, h6, h7⟩ := clL_cover h r q hr.2 hq
      have := hr.1
      refine ⟨c, List.mem_append.2 (.inr h1), h2, by omega, h4, h5, u, List.mem_cons_of_mem _ h6, fun m m1 m2 => ?_⟩
      rw [rvF, if_pos (by omega)]
      exact h7 m m1 m2
    · rw [if_pos (by omega)]
      refine ⟨_, List.mem_append.2 (.inl (List.mem_singleton.2 rfl)), ⟨by dsimp only; omega, by dsimp only; omega⟩, by dsimp only; omega, by dsimp only; omega, by dsimp only; omega, p, List.mem_cons_self, fun m m1 m2 => ?_⟩
      dsimp only at m1 m2
      rw [rvF, if_neg (by omega)]
theorem val_eq {q : Piece} (hb : within q.base (-1000000000000) 1000000000000 = true) (hr : within q.rate (-1000000) 1000000 = true) {m : Int} (h : 0 ≤ m ∧ m ≤ 20000000000) : q.val m = q.base + q.rate * m := by
  unfold within at hb hr
  simp only [Bool.and_eq_true, decide_eq_true_eq] at hb hr
  have h1 := Int.mul_le_mul_of_nonneg_right hr.1 h.1
  have h2 := Int.mul_le_mul_of_nonneg_right hr.2 h.1
  have e : ∀ x : Int, -9223372036854775808 ≤ x ∧ x ≤ 9223372036854775807 → w64 x = x := fun x hx => wr_id hx
  unfold Piece.val
  rw [e (q.rate * m) (by omega), e _ (by omega)]
theorem val_mid {q : Piece} (hb : within q.base (-1000000000000) 1000000000000 = true) (hr : within q.rate (-1000000) 1000000 = true) {a n b : Int} (h0 : 0 ≤ a) (h : a ≤ n ∧ n ≤ b) (h2 : b ≤ 20000000000) : (q.val a ≤ q.val n ∧ q.val n ≤ q.val b) ∨ (q.val b ≤ q.val n ∧ q.val n ≤ q.val a) := by
  rw [val_eq hb hr (m := a) (by omega), val_eq hb hr (m := n) (by omega), val_eq hb hr (m := b) (by omega)]
  by_cases hs : 0 ≤ q.rate
  · have h3 := Int.mul_le_mul_of_nonneg_left h.1 hs
    have h4 := Int.mul_le_mul_of_nonneg_left h.2 hs
    exact .inl (by omega)
  · have h3 := Int.mul_le_mul_of_nonneg_left h.1 (c := -q.rate) (by omega)
    have h4 := Int.mul_le_mul_of_nonneg_left h.2 (c := -q.rate) (by omega)
    simp only [Int.neg_mul] at h3 h4
    exact .inr (by omega)
theorem piece_in {l : List Piece} (h : lineB l = true) {q : Piece} (hq : q ∈ l) : within q.base (-1000000000000) 1000000000000 = true ∧ within q.rate (-1000000) 1000000 = true := by
  obtain ⟨j, hj, rfl⟩ := List.mem_iff_getElem.1 hq
  unfold lineB at h
  rw [Bool.and_eq_true] at h
  have := allR_get h.2 hj
  unfold pgood at this
  rw [List.getElem?_eq_getElem hj] at this
  simp only [Bool.and_eq_true] at this
  exact ⟨this.2.1, this.2.2.1⟩
/-- within a range a line is nowhere below its least place, nowhere above its greatest. -/
theorem ext_mid {l : List Piece} (h : lineB l = true) {lo hi n : Int} (h0 : 0 ≤ lo) (hn : lo ≤ n ∧ n ≤ hi) (h2 : hi ≤ 20000000000) : closV l (extS (closV l) l lo hi).1 ≤ closV l n ∧ closV l n ≤ closV l (extS (closV l) l lo hi).2 := by
  cases l with
  | nil => exact ⟨Int.le_refl _, Int.le_refl _⟩
  | cons p r =>
    have hp0 : p.fr = 0 := by
      have h' := h
      unfold lineB at h'
      rw [Bool.and_eq_true] at h'
      have := allR_get h'.2 (k := 0) (by simp)
      unfold pgood at this
      simp only [List.getElem?_cons_zero, Bool.and_eq_true, if_true, decide_eq_true_eq] at this
      exact this.2.2.2
    obtain ⟨c, h1, h3, h4, h5, h6, q, h7, h8⟩ := clL_cover hn r p (line_rise h) (by omega)
    obtain ⟨b1, b2⟩ := piece_in h h7
    have e : ∀ m, c.1 ≤ m → m ≤ c.2 → closV (p :: r) m = q.val m := fun m m1 m2 => by
      rw [clos_ref h (by omega), ← h8 m m1 m2]
      unfold refV
      rw [rvF, if_pos (by omega)]
    have hf := (exS_fold (closV (p :: r)) (cellL (p :: r) lo hi) (lo, lo)).2 c (by rw [cellL_eq]; exact h1)
    have hm := val_mid b1 b2 (a := c.1) (n := n) (b := c.2) (by omega) h3 (by omega)
    rw [e c.1 (Int.le_refl _) (by omega), e c.2 (by omega) (Int.le_refl _)] at hf
    rw [e n h3.1 h3.2]
    unfold extS
    omega
theorem closV_bd {l : List Piece} (h : lineB l = true) {m : Int} (hm : 0 ≤ m ∧ m ≤ 20000000000) : -20001000000000000 ≤ closV l m ∧ closV l m ≤ 20001000000000000 := by
  unfold closV
  split
  · rename_i q hq
    obtain ⟨b1, b2⟩ := piece_in h (List.mem_of_getElem? hq)
    rw [val_eq b1 b2 hm]
    unfold within at b1 b2
    simp only [Bool.and_eq_true, decide_eq_true_eq] at b1 b2
    have h1 := Int.mul_le_mul_of_nonneg_right b2.1 hm.1
    have h2 := Int.mul_le_mul_of_nonneg_right b2.2 hm.1
    omega
  · omega
theorem tonS_sum {v : Version} {k : Nat} {x0 x1 x2 x3 x4 : Int} (h0 : -20001000000000000 ≤ closV (v.ln (5 * k)) x0 ∧ closV (v.ln (5 * k)) x0 ≤ 20001000000000000) (h1 : -20001000000000000 ≤ closV (v.ln (5 * k + 1)) x1 ∧ closV (v.ln (5 * k + 1)) x1 ≤ 20001000000000000) (h2 : -20001000000000000 ≤ closV (v.ln (5 * k + 2)) x2 ∧ closV (v.ln (5 * k + 2)) x2 ≤ 20001000000000000) (h3 : -20001000000000000 ≤ closV (v.ln (5 * k + 3)) x3 ∧ closV (v.ln (5 * k + 3)) x3 ≤ 20001000000000000) (h4 : -20001000000000000 ≤ closV (v.ln (5 * k + 4)) x4 ∧ closV (v.ln (5 * k + 4)) x4 ≤ 20001000000000000) :
    tonS closV v k x0 x1 x2 x3 x4 = closV (v.ln (5 * k)) x0 + closV (v.ln (5 * k + 1)) x1 + closV (v.ln (5 * k + 2)) x2 + closV (v.ln (5 * k + 3)) x3 + closV (v.ln (5 * k + 4)) x4 := by
  have e : ∀ x : Int, -9223372036854775808 ≤ x ∧ x ≤ 9223372036854775807 → w64 x = x := fun x hx => wr_id hx
  unfold tonS wadd
  rw [e (0 + _) (by omega), e (0 + _ + _) (by omega), e (0 + _ + _ + _) (by omega), e (0 + _ + _ + _ + _) (by omega), e _ (by omega)]
  omega
theorem downI_mono {a b : Int} (h : a ≤ b) (ha : -1000000000000000000 ≤ a) (hb : b ≤ 1000000000000000000) : downI a ≤ downI b := by
  have e : ∀ x : Int, -9223372036854775808 ≤ x ∧ x ≤ 9223372036854775807 → w64 x = x := fun x hx => wr_id hx
  have key : ∀ a : Int, -1000000000000000000 ≤ a → a ≤ 1000000000000000000 → downI a = a / 1000 := by
    intro a h1 h2
    have d1 := Int.mul_tdiv_add_tmod a 1000
    have d2 := Int.tmod_lt_of_pos a (b := 1000) (by decide)
    have d3 := Int.lt_tmod_of_pos a (b := 1000) (by decide)
    unfold downI
    split
    · rw [e (a.tdiv 1000) (by omega), e _ (by omega)]; omega
    · rw [e (a.tdiv 1000) (by omega)]; omega
  rw [key a ha (by omega), key b (by omega) hb]
  omega
theorem grpF_put (y : Room) (n : Int) : ∀ (l : List Put) (k : Nat), grpF (Room.mk y.id y.kind y.op y.cr n n) l k = grpF y l k
  | [], _ => rfl
  | p :: l, k => by
    have e : p.tests.all (isSoB · (Room.mk y.id y.kind y.op y.cr n n)) = p.tests.all (isSoB · y) := rfl
    rw [grpF, grpF, e, grpF_put y n l]
theorem grp_put (v : Version) (y : Room) (n : Int) : grp v (Room.mk y.id y.kind y.op y.cr n n) = grp v y := grpF_put y n v.puts 0
def sumI (h : Room → Int) : List Room → Int
  | [] => 0
  | r :: l => h r + sumI h l
theorem sumI_set {h : Room → Int} {r y : Room} : ∀ {l : List Room} {k : Nat}, l[k]? = some y → sumI h (l.set k r) = sumI h l - h y + h r
  | [], k, e => by simp at e
  | x :: l, 0, e => by
    obtain rfl : x = y := Option.some.inj e
    rw [List.set_cons_zero, sumI, sumI]; omega
  | x :: l, k + 1, e => by
    rw [List.set_cons_succ, sumI, sumI, sumI_set (l := l) (k := k) e]; omega
def inG (v : Version) (f : Room → Int) (i : Nat) (r : Room) : Int := if (grp v r).1 = (i : Int) then f r else 0
theorem lit_sum {v : Version} {f : Room → Int} {i : Nat} (M : Int) (hM : M = 1000000000) : ∀ (l : List Room) (a n : Int), (∀ r ∈ l, 0 ≤ f r ∧ f r ≤ M) → 0 ≤ a → a ≤ n * M → 0 ≤ n → n + l.length ≤ 20 → litF v f i l a = a + sumI (inG v f i) l
  | [], a, n, _, _, _, _, _ => by show a = a + 0; omega
  | r :: l, a, n, h, h1, h2, h0, h4 => by
    have hr := h r List.mem_cons_self
    have hl := fun x hx => h x (List.mem_cons_of_mem _ hx)
    rw [List.length_cons] at h4
    rw [litF_c, sumI]
    by_cases e : (grp v r).1 = (i : Int)
    · have e1 : wadd a (f r) = a + f r := wr_id (by subst hM; omega)
      rw [if_pos e, e1, lit_sum M hM l _ (n + 1) hl (by omega) (by rw [Int.add_mul, Int.one_mul]; omega) (by omega) (by omega), show inG v f i r = f r from if_pos e]
      omega
    · rw [if_neg e, lit_sum M hM l a n hl h1 h2 h0 (by omega), show inG v f i r = 0 from if_neg e]
      omega
theorem lit_eq {v : Version} {i : Nat} {l : List Room} (h : roomsE l = 0) : litI v Room.lo i l = sumI (inG v Room.lo i) l ∧ litI v Room.hi i l = sumI (inG v Room.hi i) l := by
  have h1 := rooms_in h
  have h2 := rooms20 h
  have a := lit_sum (v := v) (f := Room.lo) (i := i) _ rfl l 0 0 (fun r hr => by have := h1 r hr; omega) (by omega) (by omega) (by omega) (by omega)
  have b := lit_sum (v := v) (f := Room.hi) (i := i) _ rfl l 0 0 (fun r hr => by have := h1 r hr; omega) (by omega) (by omega) (by omega) (by omega)
  rw [Int.zero_add] at a b
  exact ⟨a, b⟩
theorem rooms_put {l : List Room} {k : Nat} {y : Room} {n : Int} (h : roomsE l = 0) (hy : l[k]? = some y) (hn : y.lo ≤ n ∧ n ≤ y.hi) : roomsE (putL l k y n) = 0 := by
  unfold roomsE at h ⊢
  split at h
  · rename_i h1
    obtain ⟨h1, h2⟩ := h1
    have hl : (putL l k y n).length = l.length := by unfold putL; rw [List.length_set]
    have hg : ∀ i r, l[i]? = some r → r.ok = true ∧ (i = 0 ∨ ∀ q, l[i - 1]? = some q → q.id < r.id) := fun i r hr => (rgood_iff hr).1 (allR_get h2 (List.getElem?_eq_some_iff.1 hr).1)
    have hp : ∀ (i : Nat) (r : Room), (putL l k y n)[i]? = some r → ∃ r0 : Room, l[i]? = some r0 ∧ r0.id = r.id ∧ r.ok = true := by
      intro i r hr
      unfold putL at hr
      rw [List.getElem?_set] at hr
      by_cases e : k = i
      · subst e
        rw [if_pos rfl, if_pos (List.getElem?_eq_some_iff.1 hy).1] at hr
        obtain rfl := Option.some.inj hr
        refine ⟨y, hy, rfl, ?_⟩
        have hk := (hg k y hy).1
        unfold Room.ok within at hk ⊢
        simp only [Bool.and_eq_true, decide_eq_true_eq, Bool.not_eq_true', decide_eq_false_iff_not] at hk ⊢
        omega
      · rw [if_neg e] at hr
        exact ⟨r, hr, rfl, (hg i r hr).1⟩
    rw [if_pos]
    refine ⟨by omega, allR_mk fun j hj => ?_⟩
    have hr := List.getElem?_eq_getElem hj
    obtain ⟨r0, a1, a2, a3⟩ := hp j _ hr
    refine (rgood_iff hr).2 ⟨a3, ?_⟩
    rcases (hg j r0 a1).2 with b2 | b2
    · exact .inl b2
    · refine .inr fun q hq => ?_
      obtain ⟨q0, c1, c2, _⟩ := hp _ q hq
      have := b2 q0 c1
      omega
  · cases h
theorem end_put {c : Code} {day f : Int} {l : List Room} {k : Nat} {y : Room} {n : Int} (h : endE c day f l = 0) (hy : l[k]? = some y) (hn : y.lo ≤ n ∧ n ≤ y.hi) : endE c day f (putL l k y n) = 0 := by
  have hr := rooms_put (endE_rooms h) hy hn
  unfold endE withE at h ⊢
  obtain ⟨a, _⟩ := failE_zero (by decide) h
  rw [a, hr]; rfl
theorem lit_put {v : Version} {i : Nat} {l : List Room} {k : Nat} {y : Room} {n : Int} (h : roomsE l = 0) (hy : l[k]? = some y) (hn : y.lo ≤ n ∧ n ≤ y.hi) : litI v Room.lo i l ≤ litI v Room.lo i (putL l k y n) ∧ litI v Room.hi i (putL l k y n) ≤ litI v Room.hi i l := by
  obtain ⟨a1, a2⟩ := lit_eq (v := v) (i := i) h
  obtain ⟨b1, b2⟩ := lit_eq (v := v) (i := i) (rooms_put h hy hn)
  rw [a1, a2, b1, b2]
  unfold putL
  rw [sumI_set hy, sumI_set hy]
  unfold inG
  rw [grp_put]
  split
  · constructor <;> dsimp only <;> omega
  · omega
/-! narrower litres, narrower tonnages -/
theorem line_le {l : List Piece} (h : lineB l = true) {lo hi lo2 hi2 : Int} (h0 : 0 ≤ lo) (h1 : lo ≤ lo2) (h2 : lo2 ≤ hi2) (h3 : hi2 ≤ hi) (h4 : hi ≤ 20000000000) : closV l (extS (closV l) l lo hi).1 ≤ closV l (extS (closV l) l lo2 hi2).1 ∧ closV l (extS (closV l) l lo2 hi2).2 ≤ closV l (extS (closV l) l lo hi).2 := by
  have a1 : lo2 ≤ (extS (closV l) l lo2 hi2).1 ∧ (extS (closV l) l lo2 hi2).1 ≤ hi2 := ext_in h (by omega) h2 false
  have a2 : lo2 ≤ (extS (closV l) l lo2 hi2).2 ∧ (extS (closV l) l lo2 hi2).2 ≤ hi2 := ext_in h (by omega) h2 true
  exact ⟨(ext_mid h (lo := lo) (hi := hi) h0 (by omega) h4).1, (ext_mid h (lo := lo) (hi := hi) h0 (by omega) h4).2⟩
theorem line_bd {l : List Piece} (h : lineB l = true) {lo hi : Int} (h0 : 0 ≤ lo) (h2 : lo ≤ hi) (h4 : hi ≤ 20000000000) : (-20001000000000000 ≤ closV l (extS (closV l) l lo hi).1 ∧ closV l (extS (closV l) l lo hi).1 ≤ 20001000000000000) ∧ -20001000000000000 ≤ closV l (extS (closV l) l lo hi).2 ∧ closV l (extS (closV l) l lo hi).2 ≤ 20001000000000000 := by
  have a1 : lo ≤ (extS (closV l) l lo hi).1 ∧ (extS (closV l) l lo hi).1 ≤ hi := ext_in h (by omega) h2 false
  have a2 : lo ≤ (extS (closV l) l lo hi).2 ∧ (extS (closV l) l lo hi).2 ≤ hi := ext_in h (by omega) h2 true
  exact ⟨closV_bd h (by omega), closV_bd h (by omega)⟩
theorem judT_le {v : Version} {f : Int} (hf : f = 0 ∨ f = 1) (hl : ∀ k, k < 10 → lineB (v.ln k) = true) {lo hi lo2 hi2 : Nat → Int} (h0 : ∀ i, 0 ≤ lo i) (h1 : ∀ i, lo i ≤ lo2 i) (h2 : ∀ i, lo2 i ≤ hi2 i) (h3 : ∀ i, hi2 i ≤ hi i) (h4 : ∀ i, hi i ≤ 20000000000) : judT Prod.fst v f lo hi ≤ judT Prod.fst v f lo2 hi2 ∧ judT Prod.snd v f lo2 hi2 ≤ judT Prod.snd v f lo hi := by
  have hk : f.toNat < 2 := by rcases hf with rfl | rfl <;> decide
  have le := fun (j i : Nat) (hj : j < 5) => line_le (hl (5 * f.toNat + j) (by omega)) (h0 i) (h1 i) (h2 i) (h3 i) (h4 i)
  have bd := fun (j i : Nat) (hj : j < 5) => line_bd (hl (5 * f.toNat + j) (by omega)) (h0 i) (by have := h1 i; have := h2 i; have := h3 i; omega) (h4 i)
  have bd2 := fun (j i : Nat) (hj : j < 5) => line_bd (hl (5 * f.toNat + j) (by omega)) (lo := lo2 i) (hi := hi2 i) (by have := h1 i; have := h0 i; omega) (h2 i) (by have := h3 i; have := h4 i; omega)
  have l0 := le 0 1 (by decide)
  have l1 := le 1 2 (by decide)
  have l2 := le 2 3 (by decide)
  have l3 := le 3 4 (by decide)
  have l4 := le 4 5 (by decide)
  have b0 := bd 0 1 (by decide)
  have b1 := bd 1 2 (by decide)
  have b2 := bd 2 3 (by decide)
  have b3 := bd 3 4 (by decide)
  have b4 := bd 4 5 (by decide)
  have d0 := bd2 0 1 (by decide)
  have d1 := bd2 1 2 (by decide)
  have d2 := bd2 2 3 (by decide)
  have d3 := bd2 3 4 (by decide)
  have d4 := bd2 4 5 (by decide)
  clear le bd bd2 h0 h1 h2 h3 h4 hl
  simp only [Nat.add_zero] at l0 b0 d0
  unfold judT judL
  simp only [Nat.sub_self, Nat.add_zero, Nat.reduceSub]
  rw [tonS_sum b0.1 b1.1 b2.1 b3.1 b4.1, tonS_sum d0.1 d1.1 d2.1 d3.1 d4.1, tonS_sum b0.2 b1.2 b2.2 b3.2 b4.2, tonS_sum d0.2 d1.2 d2.2 d3.2 d4.2]
  exact ⟨downI_mono (by omega) (by omega) (by omega), downI_mono (by omega) (by omega) (by omega)⟩
theorem judC_at {c : Code} {day f : Int} {l : List Room} (h : endE c day f l = 0) : judC c day f l = (judT Prod.fst (verF c day) f (fun i => litI (verF c day) Room.lo i l) (fun i => litI (verF c day) Room.hi i l), judT Prod.snd (verF c day) f (fun i => litI (verF c day) Room.lo i l) (fun i => litI (verF c day) Room.hi i l)) := by
  unfold judC endD
  rw [if_pos h, if_pos h]
theorem judC_put {c : Code} {day f : Int} {l : List Room} {k : Nat} {y : Room} {n : Int} (h : endE c day f l = 0) (hy : l[k]? = some y) (hn : y.lo ≤ n ∧ n ≤ y.hi) : (judC c day f l).1 ≤ (judC c day f (putL l k y n)).1 ∧ (judC c day f (putL l k y n)).2 ≤ (judC c day f l).2 := by
  have hr := endE_rooms h
  have hr2 := rooms_put hr hy hn
  have hz := endE_zero h
  rw [judC_at h, judC_at (end_put h hy hn)]
  exact judT_le hz.f01 hz.lines (fun i => (lit_in hr).1) (fun i => (lit_put hr hy hn).1) (fun i => (lit_in hr2).2.1) (fun i => (lit_put hr hy hn).2) (fun i => (lit_in hr).2.2)
/-! the rooms on which the tonnage rests -/
theorem restF_mem {c : Code} {day f : Int} {l : List Room} {z : Int} : ∀ (ys : List Room) (d : List Int) (k : Nat), z ∈ restF c day f l ys d k ↔ z ∈ d ∨ ∃ j y, ys[j]? = some y ∧ y.id = z ∧ ¬ (sameC (judC c day f (putL l (k + j) y y.lo)) (judC c day f l) = true ∧ sameC (judC c day f (putL l (k + j) y y.hi)) (judC c day f l) = true)
  | [], d, k => by
    rw [restF]
    exact ⟨.inl, fun h => h.elim id fun ⟨j, y, h, _⟩ => by simp at h⟩
  | x :: ys, d, k => by
    rw [restF, restF_mem ys]
    constructor
    · rintro (h | ⟨j, y, h1, h2, h3⟩)
      · split at h
        · exact .inl h
        · rename_i hx
          rcases List.mem_append.1 h with h | h
          · exact .inl h
          · exact .inr ⟨0, x, rfl, (List.mem_singleton.1 h).symm, hx⟩
      · exact .inr ⟨j + 1, y, h1, h2, by rwa [show k + (j + 1) = k + 1 + j by omega]⟩
    · rintro (h | ⟨j, y, h1, h2, h3⟩)
      · refine .inl ?_
        split
        · exact h
        · exact List.mem_append.2 (.inl h)
      · cases j with
        | zero =>
          obtain rfl : x = y := Option.some.inj h1
          refine .inl ?_
          rw [Nat.add_zero] at h3
          rw [if_neg h3]
          exact List.mem_append.2 (.inr (List.mem_singleton.2 h2.symm))
        | succ j => exact .inr ⟨j, y, h1, h2, by rwa [show k + 1 + j = k + (j + 1) by omega]⟩
theorem rise_id {l : List Room} (h : roomsE l = 0) : ∀ (j i : Nat) (u v : Room), i < j → l[i]? = some u → l[j]? = some v → u.id < v.id
  | 0, i, _, _, hi, _, _ => by omega
  | j + 1, i, u, v, hi, hu, hv => by
    have hj : j < l.length := by have := (List.getElem?_eq_some_iff.1 hv).1; omega
    have hq := List.getElem?_eq_getElem hj
    have hg : rgood l (j + 1) = true := by
      unfold roomsE at h
      split at h
      · rename_i h1; exact allR_get h1.2 (List.getElem?_eq_some_iff.1 hv).1
      · cases h
    rcases ((rgood_iff hv).1 hg).2 with a | a
    · omega
    · have a1 := a _ hq
      by_cases e : i = j
      · subst e
        rw [hu] at hq
        obtain rfl := Option.some.inj hq
        exact a1
      · have := rise_id h j i u _ (by omega) hu hq
        omega
theorem rest_at {c : Code} {day f : Int} {l : List Room} (h : endE c day f l = 0) {k : Nat} {y : Room} (hy : l[k]? = some y) : y.id ∈ restF c day f l l [] 0 ↔ ¬ (sameC (judC c day f (putL l k y y.lo)) (judC c day f l) = true ∧ sameC (judC c day f (putL l k y y.hi)) (judC c day f l) = true) := by
  rw [restF_mem]
  constructor
  · rintro (h1 | ⟨j, z, h1, h2, h3⟩)
    · cases h1
    · rw [Nat.zero_add] at h3
      have e : j = k := by
        rcases Nat.lt_trichotomy j k with a | a | a
        · have := rise_id (endE_rooms h) k j z y a h1 hy; omega
        · exact a
        · have := rise_id (endE_rooms h) j k y z a hy h1; omega
      subst e
      rw [hy] at h1
      obtain rfl := Option.some.inj h1
      exact h3
  · intro h3
    exact .inr ⟨k, y, hy, rfl, by rwa [Nat.zero_add]⟩
theorem rests_at {c : Code} {day f : Int} {l : List Room} (h : endE c day f l = 0) : F_code_Rests c day f l = some (restF c day f l l [] 0, 0) := by
  unfold F_code_Rests
  have := cRests_l1 (c := c) (day := day) (f := f) (e := 0) (endE_zero h).len l [] 0 rfl (by simp only [List.length_nil]; have := (endE_zero h).len; omega)
  unfold judC at this
  unfold F_code_Judge
  simp only [Option.bind_some, this, h, decide_true, Bool.not_true, cond_false]
end Go.Proofs.YtjflgemfeofciaaGreatDoor

/- Layer 4: CodeNarrows holds (plain law). -/
namespace Go.Proofs.YtjflgemfeofciaaGreatDoor
open Go Go.Ev
set_option linter.unusedVariables false
set_option linter.unusedSimpArgs false
theorem mod_big (n : Int) {m : Int} (h : 0 < m ∧ m ≤ 1000000000000) : ∃ r, F_r01_Mod n m = some r ∧ 0 ≤ r ∧ r < m := by
  have e : (!decide (m = 0)) = true := by rw [decide_eq_false (by omega)]; rfl
  have a1 := Int.tmod_lt_of_pos n h.1
  have a2 := Int.lt_tmod_of_pos n h.1
  refine ⟨Int.tmod (wr (Int.tmod n m + m)) m, ?_, ?_, Int.tmod_lt_of_pos _ h.1⟩
  · unfold F_r01_Mod; rw [ckT e, ckT e]
  · rw [wr_id (by omega)]
    exact Int.tmod_nonneg _ (by omega)
theorem nar_l1 (y : Room) : ∀ (l : List Int) (b : Bool) (k : Nat), F_l04_CodeNarrows_l1 y l b k = some (b || decide (y.id ∈ l))
  | [], b, k => by
    rw [F_l04_CodeNarrows_l1, decide_eq_false (by simp), Bool.or_false]
  | z :: l, b, k => by
    rw [F_l04_CodeNarrows_l1, nar_l1 y l, nar_l1 y l]
    cases b with
    | true => rfl
    | false =>
      rw [cond_false, Bool.false_or]
      by_cases h : z = y.id
      · rw [decide_eq_true h, decide_eq_true (p := y.id ∈ z :: l) (by rw [← h]; exact List.mem_cons_self), Bool.true_or]
      · rw [decide_eq_false h, Bool.false_or]
        refine congrArg some (decide_eq_decide.2 ?_)
        rw [List.mem_cons]
        exact ⟨.inr, fun k => k.elim (fun e => absurd e.symm h) id⟩
theorem codeNarrows_true (l : List T_Raw) (x : T_Some) (n : Nat → Int) : F_l04_CodeNarrows l x n = some true := by
  obtain ⟨c, q, hw, h⟩ := world_ok l x
  obtain ⟨k, y, hn, hy, hle, hin⟩ := force_in h
  have hd := h.day
  have he : endE c q.Day q.Formula q.Rooms = 0 := (end_at h.err h.f01 h.rooms hy (by omega) hn).1
  unfold F_l04_CodeNarrows
  rw [hw]
  simp only [Option.bind_some, judge_code, he, decide_true, Bool.not_true, cond_false]
  rw [rests_at he]
  simp only [Option.bind_some, decide_true, Bool.not_true, cond_false]
  by_cases h0 : q.Rooms.length = 0
  · have e : q.Rooms = [] := List.length_eq_zero_iff.1 h0
    rw [e]; rfl
  · have hl := rooms20 h.rooms
    obtain ⟨i, a1, a2, a3⟩ := mod_ok (n 0) (m := (q.Rooms.length : Int)) (by omega)
    obtain ⟨j, rfl⟩ : ∃ j : Nat, i = j := ⟨i.toNat, by omega⟩
    have hr := List.getElem?_eq_getElem (l := q.Rooms) (i := j) (by omega)
    generalize q.Rooms[j] = r at hr
    have hb := rooms_in h.rooms r (List.mem_of_getElem? hr)
    have e1 : wr (r.hi - r.lo) = r.hi - r.lo := wr_id (by omega)
    have e2 : wr (r.hi - r.lo + 1) = r.hi - r.lo + 1 := wr_id (by omega)
    obtain ⟨m, b1, b2, b3⟩ := mod_big (n 1) (m := r.hi - r.lo + 1) (by omega)
    have e3 : wr (r.lo + m) = r.lo + m := wr_id (by omega)
    have p1 := judC_put (n := r.lo + m) he hr (by omega)
    have g1 := end_put (n := r.lo + m) he hr (by omega)
    have g2 := end_put (n := r.lo) he hr (by omega)
    have g3 := end_put (n := r.hi) he hr (by omega)
    have ra := rest_at he hr
    rw [decide_eq_false (p := (q.Rooms.length : Int) = 0) (by omega), a1]
    simp only [cond_false, Option.bind_some, atI_nat, hr, e1, e2, b1, e3, only_eq hr hl, judge_code, g1, g2, g3, decide_true, Bool.not_true, nar_l1, Bool.false_or]
    show cond (decide ((judC c q.Day q.Formula (putL q.Rooms j r (r.lo + m))).1 < (judC c q.Day q.Formula q.Rooms).1)) (some false) (cond (decide ((judC c q.Day q.Formula q.Rooms).2 < (judC c q.Day q.Formula (putL q.Rooms j r (r.lo + m))).2)) (some false) (cond (!sameC (judC c q.Day q.Formula (putL q.Rooms j r r.lo)) (judC c q.Day q.Formula q.Rooms)) (cond (decide (decide (r.id ∈ restF c q.Day q.Formula q.Rooms q.Rooms [] 0) = true)) (some true) (some false)) (cond (decide (decide (r.id ∈ restF c q.Day q.Formula q.Rooms q.Rooms [] 0) = !sameC (judC c q.Day q.Formula (putL q.Rooms j r r.hi)) (judC c q.Day q.Formula q.Rooms))) (some true) (some false)))) = some true
    rw [decide_eq_false (p := (judC c q.Day q.Formula (putL q.Rooms j r (r.lo + m))).1 < (judC c q.Day q.Formula q.Rooms).1) (by omega), decide_eq_false (p := (judC c q.Day q.Formula q.Rooms).2 < (judC c q.Day q.Formula (putL q.Rooms j r (r.lo + m))).2) (by omega), cond_false, cond_false]
    cases x1 : sameC (judC c q.Day q.Formula (putL q.Rooms j r r.lo)) (judC c q.Day q.Formula q.Rooms) with
    | false =>
      rw [decide_eq_true (p := r.id ∈ restF c q.Day q.Formula q.Rooms q.Rooms [] 0) (ra.2 fun k => by rw [x1] at k; cases k.1)]; rfl
    | true =>
      cases x2 : sameC (judC c q.Day q.Formula (putL q.Rooms j r r.hi)) (judC c q.Day q.Formula q.Rooms) with
      | false =>
        rw [decide_eq_true (p := r.id ∈ restF c q.Day q.Formula q.Rooms q.Rooms [] 0) (ra.2 fun k => by rw [x2] at k; cases k.2)]; rfl
      | true =>
        rw [decide_eq_false (p := r.id ∈ restF c q.Day q.Formula q.Rooms q.Rooms [] 0) (fun k => ra.1 k ⟨x1, x2⟩)]; rfl
end Go.Proofs.YtjflgemfeofciaaGreatDoor
