import Derived.Test.YtjflgemfeofciaaGreatDoorRj4
/- Layer 4: the walk of CodeJudges. -/
namespace Go.Proofs.YtjflgemfeofciaaGreatDoor
open Go Go.Ev
set_option linter.unusedVariables false
set_option linter.unusedSimpArgs false
set_option maxRecDepth 10000
def F_l04_CodeJudges (p0 : Code) (p1 : T_Ask) (p2 : (Nat → T_End)) : Option (Bool) := ((F_code_Judge p0 p1.Day p1.Formula p1.Rooms).bind fun q4 => ((F_r04_Judge p0 p1.Day p1.Formula p1.Rooms).bind fun q6 => ((F_code_Ends p0 p1.Day p1.Formula p1.Rooms).bind fun q8 => ((F_r04_Ends p0 p1.Day p1.Formula p1.Rooms).bind fun q11 => (cond ((decide (q4.1.1 = q6.1.1)) && ((decide (q4.1.2 = q6.1.2)) && true)) ((cond (decide (q4.2 = q6.2)) ((cond ((decide (q8.1.Tonnage = q11.1.Tonnage)) && (((decide ((q8.1.Litres 0) = (q11.1.Litres 0))) && ((decide ((q8.1.Litres 1) = (q11.1.Litres 1))) && ((decide ((q8.1.Litres 2) = (q11.1.Litres 2))) && ((decide ((q8.1.Litres 3) = (q11.1.Litres 3))) && ((decide ((q8.1.Litres 4) = (q11.1.Litres 4))) && true))))) && true)) ((cond ((decide (q8.2.1.Tonnage = q11.2.1.Tonnage)) && (((decide ((q8.2.1.Litres 0) = (q11.2.1.Litres 0))) && ((decide ((q8.2.1.Litres 1) = (q11.2.1.Litres 1))) && ((decide ((q8.2.1.Litres 2) = (q11.2.1.Litres 2))) && ((decide ((q8.2.1.Litres 3) = (q11.2.1.Litres 3))) && ((decide ((q8.2.1.Litres 4) = (q11.2.1.Litres 4))) && true))))) && true)) ((cond (decide (q8.2.2 = q11.2.2)) (((F_code_CheckEnds p0 p1.Day p1.Formula p1.Rooms p2).bind fun q19 => ((F_r04_CheckEnds p0 p1.Day p1.Formula p1.Rooms p2).bind fun q20 => (cond (decide (q19 = q20)) (some true) (some false))))) (some false))) (some false))) (some false))) (some false))) (some false))))))
set_option maxHeartbeats 1000000 in
theorem F_l04_CodeJudges_ok (p0 : Code) (p1 : T_Ask) (p2 : (Nat → T_End)) (v0_1 v1_2 : V) (g : G) (h0_1 : RS VersionR 12 g v0_1 p0.vs) (h1_2 : RS RoomR 6 g v1_2 p1.Rooms) (r : Bool) (hF : F_l04_CodeJudges p0 p1 p2 = some r) : Fv Tryz.prog natS (.f 4 [] []) [.agg [.s p0.name, v0_1], .agg [.i .i64 p1.Day, .i .i64 p1.Formula, v1_2], .agg [.i .i64 ((p2 0).Tonnage), .i .i64 ((p2 0).Litres 0), .i .i64 ((p2 0).Litres 1), .i .i64 ((p2 0).Litres 2), .i .i64 ((p2 0).Litres 3), .i .i64 ((p2 0).Litres 4), .i .i64 ((p2 1).Tonnage), .i .i64 ((p2 1).Litres 0), .i .i64 ((p2 1).Litres 1), .i .i64 ((p2 1).Litres 2), .i .i64 ((p2 1).Litres 3), .i .i64 ((p2 1).Litres 4)]] g (.b r) := by
  refine Fw.fv ?_
  unfold F_l04_CodeJudges at hF
  have lh0_1 := h0_1.1
  have lh1_2 := h1_2.1
  refine Fw.enter (N := 110) (al := [(2, _), (1, _), (0, _)]) Tryz.func4 (by kernel_rfl) (by kernel_rfl) rfl rfl rfl rfl ?_
  intro B
  refine .seq <| .region rfl <| .box .no rfl rfl rfl rfl fun b1 => .box .no rfl rfl rfl rfl fun b2 => .box .no rfl rfl rfl rfl fun b3 => .z rfl rfl <| .nil <| sq_n <| .seq <| .region rfl <| .ld .no rfl (.a (vs := [_, _]) rfl (.tl (.tl .hd)) a_24 s_24 rfl rfl) <| .p .no rfl (.fa rfl f_37_0) <| .ld .no rfl (.s rfl (.tl .hd) a_3 rfl) <| .p .no rfl (.fa rfl f_37_1) <| .ld .no rfl (.s rfl (.tl .hd) a_3 rfl) <| .p .no rfl (.fa rfl f_37_2) <| .ld .no rfl (.s rfl (.tl .hd) a_25 rfl) ?_
  obtain ⟨q4, hq4, hF⟩ := bS hF
  refine .callV .no rfl rfl rfl (F_code_Judge_ok p0 p1.Day p1.Formula p1.Rooms _ _ _ h0_1 h1_2 _ hq4) <| .m rfl rfl <| .p .no rfl (.ext rfl rfl) <| .p .no rfl (.ext rfl rfl) <| .alloc .no rfl z_27 fun b5 => .st (cs' := [_, _]) .no rfl rfl rfl rfl s_27 rfl rfl .hd rfl rfl <| .z rfl rfl <| .nil <| sq_n <| .seq <| .region rfl <| .ld .no rfl (.a (vs := [_, _]) rfl (.tl (.tl (.tl .hd))) a_24 s_24 rfl rfl) <| .p .no rfl (.fa rfl f_37_0) <| .ld .no rfl (.s rfl (.tl (.tl .hd)) a_3 rfl) <| .p .no rfl (.fa rfl f_37_1) <| .ld .no rfl (.s rfl (.tl (.tl .hd)) a_3 rfl) <| .p .no rfl (.fa rfl f_37_2) <| .ld .no rfl (.s rfl (.tl (.tl .hd)) a_25 rfl) ?_
  obtain ⟨q6, hq6, hF⟩ := bS hF
  refine .callV .no rfl rfl rfl (F_r04_Judge_ok p0 p1.Day p1.Formula p1.Rooms _ _ _ h0_1 h1_2 _ hq6) <| .m rfl rfl <| .p .no rfl (.ext rfl rfl) <| .p .no rfl (.ext rfl rfl) <| .alloc .no rfl z_27 fun b7 => .st (cs' := [_, _]) .no rfl rfl rfl rfl s_27 rfl rfl .hd rfl rfl <| .z rfl rfl <| .nil <| sq_n <| .seq <| .region rfl <| .ld .no rfl (.a (vs := [_, _]) rfl (.tl (.tl (.tl (.tl .hd)))) a_24 s_24 rfl rfl) <| .p .no rfl (.fa rfl f_37_0) <| .ld .no rfl (.s rfl (.tl (.tl (.tl .hd))) a_3 rfl) <| .p .no rfl (.fa rfl f_37_1) <| .ld .no rfl (.s rfl (.tl (.tl (.tl .hd))) a_3 rfl) <| .p .no rfl (.fa rfl f_37_2) <| .ld .no rfl (.s rfl (.tl (.tl (.tl .hd))) a_25 rfl) ?_
  obtain ⟨q8, hq8, hF⟩ := bS hF
  refine .callV .no rfl rfl rfl (F_code_Ends_ok p0 p1.Day p1.Formula p1.Rooms _ _ _ h0_1 h1_2 _ hq8) <| .m rfl rfl <| .p .no rfl (.ext rfl rfl) <| .p .no rfl (.ext rfl rfl) <| .p .no rfl (.ext rfl rfl) <| .alloc .no rfl z_40 fun b9 => .alloc .no rfl z_40 fun b10 => .st (cs' := [_, _, _, _, _, _]) .no rfl rfl rfl rfl s_40 rfl rfl (.tl .hd) rfl rfl <| .st (cs' := [_, _, _, _, _, _]) .no rfl rfl rfl rfl s_40 rfl rfl .hd rfl rfl <| .z rfl rfl <| .nil <| sq_n <| .seq <| .region rfl <| .ld .no rfl (.a (vs := [_, _]) rfl (.tl (.tl (.tl (.tl (.tl (.tl .hd)))))) a_24 s_24 rfl rfl) <| .p .no rfl (.fa rfl f_37_0) <| .ld .no rfl (.s rfl (.tl (.tl (.tl (.tl (.tl .hd))))) a_3 rfl) <| .p .no rfl (.fa rfl f_37_1) <| .ld .no rfl (.s rfl (.tl (.tl (.tl (.tl (.tl .hd))))) a_3 rfl) <| .p .no rfl (.fa rfl f_37_2) <| .ld .no rfl (.s rfl (.tl (.tl (.tl (.tl (.tl .hd))))) a_25 rfl) ?_
  obtain ⟨q11, hq11, hF⟩ := bS hF
  refine .callV .no rfl rfl rfl (F_r04_Ends_ok p0 p1.Day p1.Formula p1.Rooms _ _ _ h0_1 h1_2 _ hq11) <| .m rfl rfl <| .p .no rfl (.ext rfl rfl) <| .p .no rfl (.ext rfl rfl) <| .p .no rfl (.ext rfl rfl) <| .alloc .no rfl z_40 fun b12 => .alloc .no rfl z_40 fun b13 => .st (cs' := [_, _, _, _, _, _]) .no rfl rfl rfl rfl s_40 rfl rfl (.tl .hd) rfl rfl <| .st (cs' := [_, _, _, _, _, _]) .no rfl rfl rfl rfl s_40 rfl rfl .hd rfl rfl <| .z rfl rfl <| .nil <| sq_n <| .seq <| .draw (tb := [r0 0 0, r0 0 0, r1 3 0, r1 7 0, r1 15 0, r1 15 0, r1 63 0, r1 127 0, r1 255 0, r0 511 0, r0 511 0, r1 2047 0, r1 4095 0, r1 8191 0, r0 16383 0, r0 16383 0, r1 65535 0, r1 131071 0, r1 262143 0, r1 524287 0, r1 524287 0, r1 2097151 0, r1 4194303 0, r1 8388607 0, r0 16777215 0, r0 16777215 0, r0 50331647 0, r0 16777215 0, r0 150994943 0, r0 16777215 0, r0 553648127 0, r0 16777215 0, r0 4294967295 0, r0 16777215 0, r0 16777215 0, r0 17196646399 0, r0 16777215 0, r0 68736253951 0, r0 16777215 0, r0 274894684159 0, r0 16777215 0, r1 2199023255551 1, r1 4398046511103 2, r1 8796093022207 2, r1 17592186044415 2, r1 35184372088831 2, r1 70368744177663 3, r1 140737488355327 3]) rfl (by kernel_rfl) (by kernel_rfl) ?_
  refine .y rfl rfl rfl (.a (vs := [_, _]) rfl (.tl (.tl (.tl (.tl (.tl .hd))))) a_27 s_27 rfl rfl) <| .y rfl rfl rfl (.a (vs := [_, _]) rfl (.tl (.tl (.tl (.tl .hd)))) a_27 s_27 rfl rfl) <| .p .no rfl (.binE rfl rfl (binV_eql (by kernel_rfl) (eq_27 _ _ _ _))) rfl rfl rfl ?_
  refine .m rfl rfl <| .split (t := 66) rfl (fun h14 => ?_) (fun h14 => ?_)
  · have kh14 := h14
    have hF := cT h14 hF
    refine .p (.yes rfl rfl h14) rfl (.move rfl) rfl rfl rfl <| .p (.yes rfl rfl h14) rfl (.move rfl) rfl rfl rfl <| .p (.yes rfl rfl h14) rfl (.bin rfl rfl rfl) rfl rfl rfl <| .p .no rfl (.pickT rfl h14 rfl) rfl rfl rfl <| .m rfl rfl <| .split (t := 71) rfl (fun h15 => ?_) (fun h15 => ?_)
    · have kh15 := dT h15
      have hF := cT h15 hF
      refine .ld (k := 0) (.yes rfl rfl h15) rfl rfl rfl trivial (.a (vs := [_, _, _, _, _, _]) rfl (.tl (.tl (.tl .hd))) a_40 s_40 rfl rfl) <| .ld (k := 0) (.yes rfl rfl h15) rfl rfl rfl trivial (.a (vs := [_, _, _, _, _, _]) rfl (.tl .hd) a_40 s_40 rfl rfl) <| .p (.yes rfl rfl h15) rfl (.binE rfl rfl (binV_eql (by kernel_rfl) (eq_40 _ _ _ _ _ _ _ _ _ _ _ _))) rfl rfl rfl ?_
      refine .p .no rfl (.pickT rfl h15 rfl) rfl rfl rfl <| .m rfl rfl <| .split (t := 76) rfl (fun h16 => ?_) (fun h16 => ?_)
      · have kh16 := h16
        have hF := cT h16 hF
        refine .ld (k := 0) (.yes rfl rfl h16) rfl rfl rfl trivial (.a (vs := [_, _, _, _, _, _]) rfl (.tl (.tl .hd)) a_40 s_40 rfl rfl) <| .ld (k := 0) (.yes rfl rfl h16) rfl rfl rfl trivial (.a (vs := [_, _, _, _, _, _]) rfl .hd a_40 s_40 rfl rfl) <| .p (.yes rfl rfl h16) rfl (.binE rfl rfl (binV_eql (by kernel_rfl) (eq_40 _ _ _ _ _ _ _ _ _ _ _ _))) rfl rfl rfl ?_
        refine .p .no rfl (.pickT rfl h16 rfl) rfl rfl rfl <| .m rfl rfl <| .split (t := 81) rfl (fun h17 => ?_) (fun h17 => ?_)
        · have kh17 := h17
          have hF := cT h17 hF
          refine .p (.yes rfl rfl h17) rfl (.move rfl) rfl rfl rfl <| .p (.yes rfl rfl h17) rfl (.move rfl) rfl rfl rfl <| .p (.yes rfl rfl h17) rfl (.bin rfl rfl rfl) rfl rfl rfl <| .p .no rfl (.pickT rfl h17 rfl) rfl rfl rfl <| .m rfl rfl <| .split (t := 86) rfl (fun h18 => ?_) (fun h18 => ?_)
          · have kh18 := dT h18
            have hF := cT h18 hF
            refine .ld (k := 0) (.yes rfl rfl h18) rfl rfl rfl trivial (.a (vs := [_, _]) rfl (.tl (.tl (.tl (.tl (.tl (.tl (.tl (.tl .hd)))))))) a_24 s_24 rfl rfl) <| .p (.yes rfl rfl h18) rfl (.fa rfl f_37_0) rfl rfl rfl <| .ld (k := 0) (.yes rfl rfl h18) rfl rfl rfl trivial (.s rfl (.tl (.tl (.tl (.tl (.tl (.tl (.tl .hd))))))) a_3 rfl) <| .p (.yes rfl rfl h18) rfl (.fa rfl f_37_1) rfl rfl rfl <| .ld (k := 0) (.yes rfl rfl h18) rfl rfl rfl trivial (.s rfl (.tl (.tl (.tl (.tl (.tl (.tl (.tl .hd))))))) a_3 rfl) <| .p (.yes rfl rfl h18) rfl (.fa rfl f_37_2) rfl rfl rfl <| .ld (k := 0) (.yes rfl rfl h18) rfl rfl rfl trivial (.s rfl (.tl (.tl (.tl (.tl (.tl (.tl (.tl .hd))))))) a_25 rfl) <| .ld (k := 0) (.yes rfl rfl h18) rfl rfl rfl trivial (.a (vs := [_, _, _, _, _, _, _, _, _, _, _, _]) rfl (.tl (.tl (.tl (.tl (.tl (.tl .hd)))))) a_41 s_41 rfl rfl) ?_
            obtain ⟨q19, hq19, hF⟩ := bS hF
            refine .callV (.yes rfl rfl h18) rfl rfl rfl rfl rfl (F_code_CheckEnds_ok p0 p1.Day p1.Formula p1.Rooms p2 _ _ _ h0_1 h1_2 _ hq19) <| .ld (k := 1) (.yes rfl rfl h18) rfl rfl rfl trivial (.a (vs := [_, _]) rfl (.tl (.tl (.tl (.tl (.tl (.tl (.tl (.tl .hd)))))))) a_24 s_24 rfl rfl) <| .p (.yes rfl rfl h18) rfl (.fa rfl f_37_0) rfl rfl rfl <| .ld (k := 1) (.yes rfl rfl h18) rfl rfl rfl trivial (.s rfl (.tl (.tl (.tl (.tl (.tl (.tl (.tl .hd))))))) a_3 rfl) <| .p (.yes rfl rfl h18) rfl (.fa rfl f_37_1) rfl rfl rfl <| .ld (k := 1) (.yes rfl rfl h18) rfl rfl rfl trivial (.s rfl (.tl (.tl (.tl (.tl (.tl (.tl (.tl .hd))))))) a_3 rfl) <| .p (.yes rfl rfl h18) rfl (.fa rfl f_37_2) rfl rfl rfl <| .ld (k := 1) (.yes rfl rfl h18) rfl rfl rfl trivial (.s rfl (.tl (.tl (.tl (.tl (.tl (.tl (.tl .hd))))))) a_25 rfl) <| .ld (k := 1) (.yes rfl rfl h18) rfl rfl rfl trivial (.a (vs := [_, _, _, _, _, _, _, _, _, _, _, _]) rfl (.tl (.tl (.tl (.tl (.tl (.tl .hd)))))) a_41 s_41 rfl rfl) ?_
            obtain ⟨q20, hq20, hF⟩ := bS hF
            refine .callV (.yes rfl rfl h18) rfl rfl rfl rfl rfl (F_r04_CheckEnds_ok p0 p1.Day p1.Formula p1.Rooms p2 _ _ _ h0_1 h1_2 _ hq20) <| .p (.yes rfl rfl h18) rfl (.bin rfl rfl rfl) rfl rfl rfl <| .p .no rfl (.pickT rfl h18 rfl) rfl rfl rfl <| .m rfl rfl <| .split (t := 107) rfl (fun h21 => ?_) (fun h21 => ?_)
            · have kh21 := dT h21
              have hF := cT h21 hF
              refine .callV (.yes rfl rfl h21) rfl rfl rfl rfl rfl (sane_ok _) <| .p .no rfl (.pickT rfl h21 rfl) rfl rfl rfl <| .z rfl rfl <| .nil <| sq_n <| .ret ?_
              obtain rfl := sI hF
              refine retQ_r (Le.refl _) (.tmp rfl .nil) rfl ?_
              rfl
            · have kh21 := dF h21
              have hF := cF h21 hF
              refine .skipE (.yes rfl rfl h21) rfl rfl <| .p .no rfl (.pickF rfl h21 rfl) rfl rfl rfl <| .z rfl rfl <| .nil <| sq_n <| .ret ?_
              obtain rfl := sI hF
              refine retQ_r (Le.refl _) (.tmp rfl .nil) rfl ?_
              rfl
          · have kh18 := dF h18
            have hF := cF h18 hF
            refine .skip (.yes rfl rfl h18) rfl rfl <| .skip (.yes rfl rfl h18) rfl rfl <| .skip (.yes rfl rfl h18) rfl rfl <| .skip (.yes rfl rfl h18) rfl rfl <| .skip (.yes rfl rfl h18) rfl rfl <| .skip (.yes rfl rfl h18) rfl rfl <| .skip (.yes rfl rfl h18) rfl rfl <| .skip (.yes rfl rfl h18) rfl rfl <| .skipE (.yes rfl rfl h18) rfl rfl <| .skip (.yes rfl rfl h18) rfl rfl <| .skip (.yes rfl rfl h18) rfl rfl <| .skip (.yes rfl rfl h18) rfl rfl <| .skip (.yes rfl rfl h18) rfl rfl <| .skip (.yes rfl rfl h18) rfl rfl <| .skip (.yes rfl rfl h18) rfl rfl <| .skip (.yes rfl rfl h18) rfl rfl <| .skip (.yes rfl rfl h18) rfl rfl <| .skipE (.yes rfl rfl h18) rfl rfl <| .skip (.yes rfl rfl h18) rfl rfl <| .p .no rfl (.pickF rfl h18 rfl) rfl rfl rfl <| .m rfl rfl <| .skipE (.yes rfl rfl rfl) rfl rfl <| .p .no rfl (.pickF rfl rfl rfl) rfl rfl rfl <| .z rfl rfl <| .nil <| sq_n <| .ret ?_
            obtain rfl := sI hF
            refine retQ_r (Le.refl _) (.tmp rfl .nil) rfl ?_
            rfl
        · have kh17 := h17
          have hF := cF h17 hF
          refine .skip (.yes rfl rfl h17) rfl rfl <| .skip (.yes rfl rfl h17) rfl rfl <| .skip (.yes rfl rfl h17) rfl rfl <| .p .no rfl (.pickF rfl h17 rfl) rfl rfl rfl <| .m rfl rfl <| .skip (.yes rfl rfl rfl) rfl rfl <| .skip (.yes rfl rfl rfl) rfl rfl <| .skip (.yes rfl rfl rfl) rfl rfl <| .skip (.yes rfl rfl rfl) rfl rfl <| .skip (.yes rfl rfl rfl) rfl rfl <| .skip (.yes rfl rfl rfl) rfl rfl <| .skip (.yes rfl rfl rfl) rfl rfl <| .skip (.yes rfl rfl rfl) rfl rfl <| .skipE (.yes rfl rfl rfl) rfl rfl <| .skip (.yes rfl rfl rfl) rfl rfl <| .skip (.yes rfl rfl rfl) rfl rfl <| .skip (.yes rfl rfl rfl) rfl rfl <| .skip (.yes rfl rfl rfl) rfl rfl <| .skip (.yes rfl rfl rfl) rfl rfl <| .skip (.yes rfl rfl rfl) rfl rfl <| .skip (.yes rfl rfl rfl) rfl rfl <| .skip (.yes rfl rfl rfl) rfl rfl <| .skipE (.yes rfl rfl rfl) rfl rfl <| .skip (.yes rfl rfl rfl) rfl rfl <| .p .no rfl (.pickF rfl rfl rfl) rfl rfl rfl <| .m rfl rfl <| .skipE (.yes rfl rfl rfl) rfl rfl <| .p .no rfl (.pickF rfl rfl rfl) rfl rfl rfl <| .z rfl rfl <| .nil <| sq_n ?_
          refine .ret ?_
          obtain rfl := sI hF
          refine retQ_r (Le.refl _) (.tmp rfl .nil) rfl ?_
          rfl
      · have kh16 := h16
        have hF := cF h16 hF
        refine .skip (.yes rfl rfl h16) rfl rfl <| .skip (.yes rfl rfl h16) rfl rfl <| .skip (.yes rfl rfl h16) rfl rfl <| .p .no rfl (.pickF rfl h16 rfl) rfl rfl rfl <| .m rfl rfl <| .skip (.yes rfl rfl rfl) rfl rfl <| .skip (.yes rfl rfl rfl) rfl rfl <| .skip (.yes rfl rfl rfl) rfl rfl <| .p .no rfl (.pickF rfl rfl rfl) rfl rfl rfl <| .m rfl rfl <| .skip (.yes rfl rfl rfl) rfl rfl <| .skip (.yes rfl rfl rfl) rfl rfl <| .skip (.yes rfl rfl rfl) rfl rfl <| .skip (.yes rfl rfl rfl) rfl rfl <| .skip (.yes rfl rfl rfl) rfl rfl <| .skip (.yes rfl rfl rfl) rfl rfl <| .skip (.yes rfl rfl rfl) rfl rfl <| .skip (.yes rfl rfl rfl) rfl rfl <| .skipE (.yes rfl rfl rfl) rfl rfl <| .skip (.yes rfl rfl rfl) rfl rfl <| .skip (.yes rfl rfl rfl) rfl rfl <| .skip (.yes rfl rfl rfl) rfl rfl <| .skip (.yes rfl rfl rfl) rfl rfl <| .skip (.yes rfl rfl rfl) rfl rfl <| .skip (.yes rfl rfl rfl) rfl rfl <| .skip (.yes rfl rfl rfl) rfl rfl <| .skip (.yes rfl rfl rfl) rfl rfl <| .skipE (.yes rfl rfl rfl) rfl rfl <| .skip (.yes rfl rfl rfl) rfl rfl <| .p .no rfl (.pickF rfl rfl rfl) rfl rfl rfl ?_
        refine .m rfl rfl <| .skipE (.yes rfl rfl rfl) rfl rfl <| .p .no rfl (.pickF rfl rfl rfl) rfl rfl rfl <| .z rfl rfl <| .nil <| sq_n <| .ret ?_
        obtain rfl := sI hF
        refine retQ_r (Le.refl _) (.tmp rfl .nil) rfl ?_
        rfl
    · have kh15 := dF h15
      have hF := cF h15 hF
      refine .skip (.yes rfl rfl h15) rfl rfl <| .skip (.yes rfl rfl h15) rfl rfl <| .skip (.yes rfl rfl h15) rfl rfl <| .p .no rfl (.pickF rfl h15 rfl) rfl rfl rfl <| .m rfl rfl <| .skip (.yes rfl rfl rfl) rfl rfl <| .skip (.yes rfl rfl rfl) rfl rfl <| .skip (.yes rfl rfl rfl) rfl rfl <| .p .no rfl (.pickF rfl rfl rfl) rfl rfl rfl <| .m rfl rfl <| .skip (.yes rfl rfl rfl) rfl rfl <| .skip (.yes rfl rfl rfl) rfl rfl <| .skip (.yes rfl rfl rfl) rfl rfl <| .p .no rfl (.pickF rfl rfl rfl) rfl rfl rfl <| .m rfl rfl <| .skip (.yes rfl rfl rfl) rfl rfl <| .skip (.yes rfl rfl rfl) rfl rfl <| .skip (.yes rfl rfl rfl) rfl rfl <| .skip (.yes rfl rfl rfl) rfl rfl <| .skip (.yes rfl rfl rfl) rfl rfl <| .skip (.yes rfl rfl rfl) rfl rfl <| .skip (.yes rfl rfl rfl) rfl rfl <| .skip (.yes rfl rfl rfl) rfl rfl <| .skipE (.yes rfl rfl rfl) rfl rfl <| .skip (.yes rfl rfl rfl) rfl rfl <| .skip (.yes rfl rfl rfl) rfl rfl <| .skip (.yes rfl rfl rfl) rfl rfl <| .skip (.yes rfl rfl rfl) rfl rfl <| .skip (.yes rfl rfl rfl) rfl rfl <| .skip (.yes rfl rfl rfl) rfl rfl ?_
      refine .skip (.yes rfl rfl rfl) rfl rfl <| .skip (.yes rfl rfl rfl) rfl rfl <| .skipE (.yes rfl rfl rfl) rfl rfl <| .skip (.yes rfl rfl rfl) rfl rfl <| .p .no rfl (.pickF rfl rfl rfl) rfl rfl rfl <| .m rfl rfl <| .skipE (.yes rfl rfl rfl) rfl rfl <| .p .no rfl (.pickF rfl rfl rfl) rfl rfl rfl <| .z rfl rfl <| .nil <| sq_n <| .ret ?_
      obtain rfl := sI hF
      refine retQ_r (Le.refl _) (.tmp rfl .nil) rfl ?_
      rfl
  · have kh14 := h14
    have hF := cF h14 hF
    refine .skip (.yes rfl rfl h14) rfl rfl <| .skip (.yes rfl rfl h14) rfl rfl <| .skip (.yes rfl rfl h14) rfl rfl <| .p .no rfl (.pickF rfl h14 rfl) rfl rfl rfl <| .m rfl rfl <| .skip (.yes rfl rfl rfl) rfl rfl <| .skip (.yes rfl rfl rfl) rfl rfl <| .skip (.yes rfl rfl rfl) rfl rfl <| .p .no rfl (.pickF rfl rfl rfl) rfl rfl rfl <| .m rfl rfl <| .skip (.yes rfl rfl rfl) rfl rfl <| .skip (.yes rfl rfl rfl) rfl rfl <| .skip (.yes rfl rfl rfl) rfl rfl <| .p .no rfl (.pickF rfl rfl rfl) rfl rfl rfl <| .m rfl rfl <| .skip (.yes rfl rfl rfl) rfl rfl <| .skip (.yes rfl rfl rfl) rfl rfl <| .skip (.yes rfl rfl rfl) rfl rfl <| .p .no rfl (.pickF rfl rfl rfl) rfl rfl rfl <| .m rfl rfl <| .skip (.yes rfl rfl rfl) rfl rfl <| .skip (.yes rfl rfl rfl) rfl rfl <| .skip (.yes rfl rfl rfl) rfl rfl <| .skip (.yes rfl rfl rfl) rfl rfl <| .skip (.yes rfl rfl rfl) rfl rfl <| .skip (.yes rfl rfl rfl) rfl rfl <| .skip (.yes rfl rfl rfl) rfl rfl <| .skip (.yes rfl rfl rfl) rfl rfl <| .skipE (.yes rfl rfl rfl) rfl rfl <| .skip (.yes rfl rfl rfl) rfl rfl ?_
    refine .skip (.yes rfl rfl rfl) rfl rfl <| .skip (.yes rfl rfl rfl) rfl rfl <| .skip (.yes rfl rfl rfl) rfl rfl <| .skip (.yes rfl rfl rfl) rfl rfl <| .skip (.yes rfl rfl rfl) rfl rfl <| .skip (.yes rfl rfl rfl) rfl rfl <| .skip (.yes rfl rfl rfl) rfl rfl <| .skipE (.yes rfl rfl rfl) rfl rfl <| .skip (.yes rfl rfl rfl) rfl rfl <| .p .no rfl (.pickF rfl rfl rfl) rfl rfl rfl <| .m rfl rfl <| .skipE (.yes rfl rfl rfl) rfl rfl <| .p .no rfl (.pickF rfl rfl rfl) rfl rfl rfl <| .z rfl rfl <| .nil <| sq_n <| .ret ?_
    obtain rfl := sI hF
    refine retQ_r (Le.refl _) (.tmp rfl .nil) rfl ?_
    rfl
end Go.Proofs.YtjflgemfeofciaaGreatDoor
