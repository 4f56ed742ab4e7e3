import Derived.Test.YtjflgemfeofciaaGreatDoorRj4
import Derived.Test.YtjflgemfeofciaaGreatDoorQa4
/- Layer 4: rooms put to their ends (Only, Rests) and days, both sides. -/
namespace Go.Proofs.YtjflgemfeofciaaGreatDoor
open Go Go.Ev
set_option linter.unusedVariables false
set_option linter.unusedSimpArgs false
set_option maxRecDepth 10000
def F_r04_Days_l1 (p0 : Code) (p1 : Int) (p2 : (List Room)) : List Version → List Int → Nat → Option ((List Int))
  | [], d1_1, k1_5 => some (d1_1)
  | y1 :: ys1, d1_1, k1_5 => ((F_r04_judge y1 p1 p2).bind fun q11 => ((atI p0.vs ((k1_5 : Int) - 1)).bind fun y12 => ((F_r04_judge y12 p1 p2).bind fun q13 => (cond (!((decide (q11.1 = q13.1)) && ((decide (q11.2 = q13.2)) && true))) ((ck (decide (d1_1.length + 1 ≤ 1000000)) (F_r04_Days_l1 p0 p1 p2 ys1 (d1_1 ++ [y1.fr]) (k1_5 + 1)))) (F_r04_Days_l1 p0 p1 p2 ys1 d1_1 (k1_5 + 1))))))
def F_r04_Days (p0 : Code) (p1 : Int) (p2 : (List Room)) : Option ((List Int) × Int) := (cond (!(decide ((Code.err p0) = 0))) (some ([], (Code.err p0))) ((cond (!(within p1 0 1)) (some ([], 1)) ((cond (!(decide ((roomsE p2) = 0))) (some ([], 40)) (((F_r04_Days_l1 p0 p1 p2 (List.drop 1 p0.vs) [] 1).bind fun o1_0_1 => some (o1_0_1, 0))))))))
structure L_code_Days_1 where
  v1_2 : V
  cs1_3 : List V
  d1_1 : List Int
  k1_5 : Nat
def F_code_Days_l1 (p0 : Code) (p1 : Int) (p2 : (List Room)) : List Version → List Int → Nat → Option ((List Int))
  | [], d1_1, k1_5 => some (d1_1)
  | y1 :: ys1, d1_1, k1_5 => ((F_code_Judge p0 (wr (y1.fr - 1)) p1 p2).bind fun q11 => ((F_code_Judge p0 y1.fr p1 p2).bind fun q13 => (cond (!((decide (q13.1.1 = q11.1.1)) && ((decide (q13.1.2 = q11.1.2)) && true))) ((ck (decide (d1_1.length + 1 ≤ 1000000)) (F_code_Days_l1 p0 p1 p2 ys1 (d1_1 ++ [y1.fr]) (k1_5 + 1)))) (F_code_Days_l1 p0 p1 p2 ys1 d1_1 (k1_5 + 1)))))
def F_code_Days (p0 : Code) (p1 : Int) (p2 : (List Room)) : Option ((List Int) × Int) := ((F_code_of p0).bind fun q2 => ((F_code_question_by q2 p1).bind fun q3 => ((F_code_question_with q3 p2).bind fun q4 => (cond (!(decide (q4.e_ = 0))) (some ([], q4.e_)) ((ck (decide ((0 : Int) ≤ 1) && (decide ((1 : Int) ≤ (p0.vs.length : Int)) && decide (((p0.vs.length : Int) : Int) ≤ p0.vs.length))) (((F_code_Days_l1 p0 p1 p2 (cutL p0.vs 1 (p0.vs.length : Int)) [] 0).bind fun o1_0_1 => some (o1_0_1, 0)))))))))
set_option maxHeartbeats 1000000 in
theorem F_code_Days_ok (p0 : Code) (p1 : Int) (p2 : (List Room)) (v2_0 : V) (cs0 : List V) (g : G) (h0 : CodeR g cs0 p0) (h2_0 : RS RoomR 6 g v2_0 p2) (r : (List Int) × Int) (hF : F_code_Days p0 p1 p2 = some r) : Fw Tryz.prog natS (.f 42 [] []) [.agg cs0, .i .i64 p1, v2_0] g [] fun g' ml' q => ml' = [] ∧ ∃ (w0_0 : V), q = (.tup [w0_0, .i .i64 r.2]) ∧ RS IntR 1 g' w0_0 r.1 := by
  refine Fw.drop ?_
  unfold F_code_Days at hF
  obtain ⟨vq0, rfl, hcq0⟩ := h0
  have lh0_1 := hcq0.1
  have lh2_0 := h2_0.1
  refine Fw.enter (N := 68) (al := [(2, _), (1, _), (0, _)]) Tryz.func42 (by kernel_rfl) (by kernel_rfl) rfl rfl rfl rfl ?_
  intro B
  refine .seq <| .region rfl <| .box .no rfl rfl rfl rfl fun b1 => .z rfl rfl <| .z rfl rfl <| .nil <| sq_n <| .seq <| .region rfl <| .ld .no rfl (.a (vs := [_, _]) rfl .hd a_24 s_24 rfl rfl) ?_
  obtain ⟨q2, hq2, hF⟩ := bS hF
  refine .call .no rfl rfl rfl (F_code_of_ok p0 _ _ ⟨_, rfl, hcq0⟩ _ hq2) ?_
  rintro g2 ml2 r2 hle2 ⟨b2_0, cs2_0, rfl, rfl, ⟨v1_2_0, v3_2_0, v4_2_0, v5_2_0, v6_2_0, v7_2_0, v8_2_0, v9_2_0, v10_2_0, v11_2_0, v12_2_0, v13_2_0, rfl, h1_2_0, h3_2_0, h4_2_0, h5_2_0, h6_2_0, h7_2_0, h8_2_0, h9_2_0, h10_2_0, h11_2_0, h12_2_0, h13_2_0⟩⟩
  replace hcq0 := hcq0.mono VersionR.mono hle2
  replace h2_0 := h2_0.mono RoomR.mono hle2
  have lh2_0_1 := h1_2_0.1
  have lh2_0_3 := h3_2_0.1
  have lh2_0_4 := h4_2_0.1
  have lh2_0_5 := h5_2_0.1
  have lh2_0_6 := h6_2_0.1
  have lh2_0_7 := h7_2_0.1
  have lh2_0_8 := h8_2_0.1
  have lh2_0_9 := h9_2_0.1
  have lh2_0_10 := h10_2_0.1
  have lh2_0_11 := h11_2_0.1
  have lh2_0_12 := h12_2_0.1
  have lh2_0_13 := h13_2_0.1
  refine .m rfl rfl ?_
  obtain ⟨q3, hq3, hF⟩ := bS hF
  refine .callT .no rfl rfl rfl .hd (F_code_question_by_ok q2 p1 _ _ _ ⟨_, _, _, _, _, _, _, _, _, _, _, _, rfl, h1_2_0, h3_2_0, h4_2_0, h5_2_0, h6_2_0, h7_2_0, h8_2_0, h9_2_0, h10_2_0, h11_2_0, h12_2_0, h13_2_0⟩ _ hq3) ?_
  rintro g3 ml3 r3 hle3 ⟨cs3_0, rfl, rfl, ⟨v1_3_0, v3_3_0, v4_3_0, v5_3_0, v6_3_0, v7_3_0, v8_3_0, v9_3_0, v10_3_0, v11_3_0, v12_3_0, v13_3_0, rfl, h1_3_0, h3_3_0, h4_3_0, h5_3_0, h6_3_0, h7_3_0, h8_3_0, h9_3_0, h10_3_0, h11_3_0, h12_3_0, h13_3_0⟩⟩
  replace hcq0 := hcq0.mono VersionR.mono hle3
  replace h2_0 := h2_0.mono RoomR.mono hle3
  have lh3_0_1 := h1_3_0.1
  have lh3_0_3 := h3_3_0.1
  have lh3_0_4 := h4_3_0.1
  have lh3_0_5 := h5_3_0.1
  have lh3_0_6 := h6_3_0.1
  have lh3_0_7 := h7_3_0.1
  have lh3_0_8 := h8_3_0.1
  have lh3_0_9 := h9_3_0.1
  have lh3_0_10 := h10_3_0.1
  have lh3_0_11 := h11_3_0.1
  have lh3_0_12 := h12_3_0.1
  have lh3_0_13 := h13_3_0.1
  refine .m rfl rfl ?_
  obtain ⟨q4, hq4, hF⟩ := bS hF
  refine .callT .no rfl rfl rfl .hd (F_code_question_with_ok q3 p2 _ _ _ _ ⟨_, _, _, _, _, _, _, _, _, _, _, _, rfl, h1_3_0, h3_3_0, h4_3_0, h5_3_0, h6_3_0, h7_3_0, h8_3_0, h9_3_0, h10_3_0, h11_3_0, h12_3_0, h13_3_0⟩ h2_0 _ hq4) ?_
  rintro g4 ml4 r4 hle4 ⟨cs4_0, rfl, rfl, ⟨v1_4_0, v3_4_0, v4_4_0, v5_4_0, v6_4_0, v7_4_0, v8_4_0, v9_4_0, v10_4_0, v11_4_0, v12_4_0, v13_4_0, rfl, h1_4_0, h3_4_0, h4_4_0, h5_4_0, h6_4_0, h7_4_0, h8_4_0, h9_4_0, h10_4_0, h11_4_0, h12_4_0, h13_4_0⟩⟩
  replace hcq0 := hcq0.mono VersionR.mono hle4
  replace h2_0 := h2_0.mono RoomR.mono hle4
  have lh4_0_1 := h1_4_0.1
  have lh4_0_3 := h3_4_0.1
  have lh4_0_4 := h4_4_0.1
  have lh4_0_5 := h5_4_0.1
  have lh4_0_6 := h6_4_0.1
  have lh4_0_7 := h7_4_0.1
  have lh4_0_8 := h8_4_0.1
  have lh4_0_9 := h9_4_0.1
  have lh4_0_10 := h10_4_0.1
  have lh4_0_11 := h11_4_0.1
  have lh4_0_12 := h12_4_0.1
  have lh4_0_13 := h13_4_0.1
  refine .z rfl rfl <| .nil <| sq_n <| .seq <| .seq <| .region rfl <| .m rfl rfl <| .p .no rfl (.nil rfl) <| .p .no rfl (.fa rfl f_132_3) <| .ld .no rfl (.s rfl .hd a_30 rfl) <| .b rfl rfl rfl rfl <| .nil <| sq_n <| .cond rfl (fun h5 => ?_) (fun h5 => ?_)
  ·have kh5 := dF (nT h5)
   have hF := cT h5 hF
   refine .seq <| .draw (tb := [r1 0 0, r1 1 0, r1 3 0, r1 7 0, r0 0 0, r1 31 0]) rfl (by kernel_rfl) (by kernel_rfl) ?_
   refine .m rfl rfl <| .p .no rfl (.nil rfl) rfl rfl rfl <| .p .no rfl (.fa rfl f_132_3) rfl rfl rfl <| .y rfl rfl rfl (.s rfl .hd a_30 rfl) <| .z rfl rfl <| .z rfl rfl <| .nil <| sq_n <| .ret <| sq_r ?_
   obtain rfl := sI hF
   refine retQ_r ((hle2.trans hle3).trans hle4) (.tmp rfl (.tmp rfl .nil)) rfl ?_
   exact ⟨_, rfl, RS.nil⟩
  ·have kh5 := dT (nF h5)
   have hF := cF h5 hF
   refine .skip <| sq_n <| .seq <| .region rfl <| .z rfl rfl <| .nil <| sq_n <| .seq <| .seq <| .region rfl <| .p .no rfl (.fa rfl f_24_1) <| .ld .no rfl (.s rfl (.tl .hd) a_22 rfl) ?_
   obtain ⟨hb6, hF⟩ := ckS hF
   have hb6 := cut3 hb6
   refine .sliceI .no rfl rfl hcq0 sl_22 s_97 ⟨_, rfl⟩ rfl hb6 fun v6 hs6 => ?_
   have lhs6 := hs6.1
   refine .p .no rfl (.lenR rfl rfl rfl e_22 hs6) <| .m rfl rfl <| .nil <| sq_n <| .block <| .acc 1 3 ?_
   obtain ⟨o1, hF, hG1⟩ := bS hF
   refine .loopx (α := L_code_Days_1) [(1, _), (2, _), (3, _), (33, _), (34, _)] [_, _] (fun fx x => (9, x.v1_2) :: (35, .i .i64 (x.k1_5 : Int)) :: fx) (fun mx x => [.acc x.v1_2 1 x.cs1_3 3, rg mx 0, rg mx 1]) (fun x g' => AccR IntR 1 g' x.v1_2 x.cs1_3 x.d1_1 ∧ x.k1_5 ≤ (cutL p0.vs 1 (p0.vs.length : Int)).length ∧ F_code_Days_l1 p0 p1 p2 ((cutL p0.vs 1 (p0.vs.length : Int)).drop x.k1_5) x.d1_1 x.k1_5 = some o1) (fun x => (cutL p0.vs 1 (p0.vs.length : Int)).length - x.k1_5) (L_code_Days_1.mk _ _ [] 0) ⟨rfl, rfl, rfl, rfl, rfl, rfl, rfl, trivial⟩ (List.Sublist.refl _) ⟨AccR.nil, (by first | omega | (dsimp only; omega)), hF⟩ ?_
   intro x1 gl1 hlo1 hJ1
   obtain ⟨v1_2, cs1_3, d1_1, k1_5⟩ := x1
   try dsimp only at hJ1
   obtain ⟨ha1_4, hk1, hF⟩ := hJ1
   refine .al0 [(9, v1_2), (35, .i .i64 (k1_5 : Int)), (1, _), (2, _), (3, _), (33, _), (34, _)] ?_
   replace hcq0 := hcq0.mono VersionR.mono hlo1
   replace h2_0 := h2_0.mono RoomR.mono hlo1
   replace hs6 := hs6.mono VersionR.mono hlo1
   have lha1_4 := ha1_4.le
   refine .seq <| .region rfl <| .b rfl rfl rfl rfl <| .nil <| sq_n <| .seq <| .cond rfl (fun h8 => ?_) (fun h8 => ?_)
   ·have kh8 := dT h8
    obtain ⟨y1, hy1⟩ := getK (l := (cutL p0.vs 1 (p0.vs.length : Int))) (k := k1_5) kh8
    rw [dc hy1, F_code_Days_l1] at hF
    refine .skip <| sq_n <| .seq <| .block <| .seq <| .region rfl <| .ixk (j := k1_5) .no rfl rfl hs6 rfl e_22 hy1 ?_
    rintro b9 o9 _ hq9 ⟨p9, lv9, rfl, hp9, hl9⟩
    have lh9_1 := hp9.1
    have lh9_2 := (hl9 0 (by decide)).1
    have lh9_3 := (hl9 1 (by decide)).1
    have lh9_4 := (hl9 2 (by decide)).1
    have lh9_5 := (hl9 3 (by decide)).1
    have lh9_6 := (hl9 4 (by decide)).1
    have lh9_7 := (hl9 5 (by decide)).1
    have lh9_8 := (hl9 6 (by decide)).1
    have lh9_9 := (hl9 7 (by decide)).1
    have lh9_10 := (hl9 8 (by decide)).1
    have lh9_11 := (hl9 9 (by decide)).1
    refine .ld .no rfl (.pa 0 (vs := [_, _, _, _, _, _, _, _, _, _, _, _]) rfl hq9 rfl a_97 s_97 rfl rfl) <| .alloc .no rfl z_97 fun b10 => .st (cs' := [_, _, _, _, _, _, _, _, _, _, _, _]) .no rfl rfl rfl rfl s_97 rfl rfl .hd rfl (allOne_cons rfl (allOne_cons hp9.one (allOne_cons (hl9 0 (by decide)).one (allOne_cons (hl9 1 (by decide)).one (allOne_cons (hl9 2 (by decide)).one (allOne_cons (hl9 3 (by decide)).one (allOne_cons (hl9 4 (by decide)).one (allOne_cons (hl9 5 (by decide)).one (allOne_cons (hl9 6 (by decide)).one (allOne_cons (hl9 7 (by decide)).one (allOne_cons (hl9 8 (by decide)).one (allOne_cons (hl9 9 (by decide)).one rfl)))))))))))) <| .nil <| sq_n <| .seq <| .region rfl <| .ld .no rfl (.a (vs := [_, _]) rfl (.tl (.tl (.tl .hd))) a_24 s_24 rfl rfl) <| .p .no rfl (.fa rfl f_97_0) <| .ld .no rfl (.s rfl .hd a_3 rfl) <| .b rfl rfl rfl rfl <| .m rfl rfl <| .m rfl rfl ?_
    obtain ⟨q11, hq11, hF⟩ := bS hF
    refine .callV .no rfl rfl rfl (F_code_Judge_ok p0 (wr (y1.fr - 1)) p1 p2 _ _ _ ⟨_, rfl, hcq0⟩ h2_0 _ hq11) <| .m rfl rfl <| .p .no rfl (.ext rfl rfl) <| .p .no rfl (.ext rfl rfl) <| .alloc .no rfl z_27 fun b12 => .st (cs' := [_, _]) .no rfl rfl rfl rfl s_27 rfl rfl .hd rfl rfl <| .z rfl rfl <| .nil <| sq_n <| .seq <| .region rfl <| .ld .no rfl (.a (vs := [_, _]) rfl (.tl (.tl (.tl (.tl .hd)))) a_24 s_24 rfl rfl) <| .p .no rfl (.fa rfl f_97_0) <| .ld .no rfl (.s rfl (.tl .hd) a_3 rfl) <| .m rfl rfl <| .m rfl rfl ?_
    obtain ⟨q13, hq13, hF⟩ := bS hF
    refine .callV .no rfl rfl rfl (F_code_Judge_ok p0 y1.fr p1 p2 _ _ _ ⟨_, rfl, hcq0⟩ h2_0 _ hq13) <| .m rfl rfl <| .p .no rfl (.ext rfl rfl) <| .p .no rfl (.ext rfl rfl) <| .alloc .no rfl z_27 fun b14 => .st (cs' := [_, _]) .no rfl rfl rfl rfl s_27 rfl rfl .hd rfl rfl <| .z rfl rfl <| .nil <| sq_n <| .seq <| .region rfl <| .ld .no rfl (.a (vs := [_, _]) rfl .hd a_27 s_27 rfl rfl) <| .ld .no rfl (.a (vs := [_, _]) rfl (.tl .hd) a_27 s_27 rfl rfl) <| .p .no rfl (.binE rfl rfl (binV_neq (by kernel_rfl) (eq_27 _ _ _ _))) ?_
    refine .nil <| sq_n <| .cond rfl (fun h15 => ?_) (fun h15 => ?_)
    ·have kh15 := (nT h15)
     have hF := cT h15 hF
     refine .region rfl <| .m rfl rfl <| .p .no rfl (.fa rfl f_97_0) <| .ld .no rfl (.s rfl (.tl (.tl .hd)) a_3 rfl) <| .bs .no rfl (qs := [(0, _)]) (c := [_]) rfl sl_66 el_3 (by decide) rfl fun b16 => ?_
     obtain ⟨hl17, hF⟩ := ckS hF
     have hl17 := of_decide_eq_true hl17
     refine .x .no rfl (.appA (m := 1) (new := [_]) rfl rfl rfl (.tl (.tl (.tl (.tl .hd)))) sl_66 el_3 (.of rfl .sl sl_66 .hd (Nat.le_of_ble_eq_true rfl) rfl) (by decide) rfl (AccR.room (R := IntR) (ys := [y1.fr]) ha1_4 (Ls.cons (c := [_]) rfl rfl .nil) hl17) rfl) fun v17 => .as (.tl (.tl (.tl (.tl .hd)))) fun av17 => ?_
     have ha17 := AccR.app (R := IntR) (g := gl1) (ys := [y1.fr]) ha1_4 (Ls.cons (c := [_]) rfl rfl .nil) hl17 av17
     have lha17 := ha17.le
     refine .z rfl rfl <| .nil <| bq_n <| sq_n <| .region rfl <| .p .no rfl (.inc1 rfl rfl (by omega)) <| .m rfl rfl <| .nil <| loopQ_n (L_code_Days_1.mk _ _ (d1_1 ++ [y1.fr]) (k1_5 + 1)) ⟨rfl, rfl, rfl, rfl, rfl, rfl, rfl, trivial⟩ (.cons _ (.cons _ (.cons _ (.cons _ (List.Sublist.refl _))))) (Le.refl _) ?_ ?_
     ·exact ⟨ha17, (atN_lt hy1), hF⟩
     ·simp only; omega
    ·have kh15 := (nF h15)
     have hF := cF h15 hF
     refine .skip <| bq_n <| sq_n <| .region rfl <| .p .no rfl (.inc1 rfl rfl (by omega)) <| .m rfl rfl <| .nil <| loopQ_n (L_code_Days_1.mk _ _ d1_1 (k1_5 + 1)) ⟨rfl, rfl, rfl, rfl, rfl, rfl, rfl, trivial⟩ (.cons _ (.cons _ (.cons _ (List.Sublist.refl _)))) (Le.refl _) ?_ ?_
     ·exact ⟨ha1_4, (atN_lt hy1), hF⟩
     ·simp only; omega
   ·have kh8 := dF h8
    rw [dn (by omega), F_code_Days_l1] at hF
    obtain rfl := sI hF
    have hF := hG1
    refine .exit <| sq_e <| lq_e <| bq_x rfl <| sq_n <| .seq <| .region rfl <| .m rfl rfl <| .z rfl rfl <| .z rfl rfl <| .nil <| sq_n <| .see (seeFreeze IntR.mono .hd (by decide) ha1_4) ?_
    rintro gz18 ⟨hle18, hz18⟩
    refine .ret ?_
    obtain rfl := sI hF
    refine retQ_r ((((hle2.trans hle3).trans hle4).trans hlo1).trans hle18) (.tmp rfl (.tmp rfl .nil)) rfl ?_
    exact ⟨_, rfl, hz18⟩
end Go.Proofs.YtjflgemfeofciaaGreatDoor
