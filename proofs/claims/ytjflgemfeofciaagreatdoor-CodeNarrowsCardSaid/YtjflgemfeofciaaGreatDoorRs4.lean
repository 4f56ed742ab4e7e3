import Derived.Test.YtjflgemfeofciaaGreatDoorRj4
import Derived.Test.YtjflgemfeofciaaGreatDoorQa4
/- Layer 4: rooms put to their ends (Only, Rests) and days, both sides. -/
namespace Go.Proofs.YtjflgemfeofciaaGreatDoor
open Go Go.Ev
set_option linter.unusedVariables false
set_option linter.unusedSimpArgs false
set_option maxRecDepth 10000
def F_slices_Clone_api_Room_api_Room (l : List Room) : Option (List Room) := ck (decide (l.length ≤ 1000000)) (some l)
theorem F_slices_Clone_api_Room_api_Room_ok (p0 : (List Room)) (v0_0 : V) (g : G) (h0_0 : RS RoomR 6 g v0_0 p0) (r : (List Room)) (hF : F_slices_Clone_api_Room_api_Room p0 = some r) : Fw Tryz.prog natS (.f 97 [] []) [v0_0] g [] fun g' ml' q => ∃ (ds0 : List V) (w0_0 : V), ml' = [.acc w0_0 6 ds0 29] ∧ q = (w0_0) ∧ AccR RoomR 6 g' w0_0 ds0 r := by
  obtain ⟨hl, hF⟩ := ckS hF
  obtain rfl := sI hF
  have hl := of_decide_eq_true hl
  refine Fw.enter (N := 8) (al := [(0, _)]) Tryz.func97 (by kernel_rfl) (by kernel_rfl) rfl rfl rfl rfl ?_
  intro B
  obtain ⟨h0, hs⟩ := id h0_0
  have hno : (v0_0 = .sn ∧ p0 = []) ∨ binV Tryz.prog .eql 25 (.tmp 3) (.const (.slice none 0 0)) v0_0 .sn = some (.b false) := by
    rcases hs with ⟨h, e⟩ | ⟨h | h, e⟩ | ⟨b, o, h, -⟩
    · exact .inl ⟨h, e⟩
    · subst h; exact .inr (by kernel_rfl)
    · subst h; exact .inr (by kernel_rfl)
    · cases h <;> exact .inr (by kernel_rfl)
  rcases hno with ⟨rfl, rfl⟩ | hno
  · refine .seq <| .region rfl <| .z rfl rfl <| .nil <| sq_n <| .seq <| .seq <| .region rfl <| .m rfl rfl <| .p .no rfl (.binE rfl rfl (v := .b true) (by kernel_rfl)) <| .nil <| sq_n <| .condT rfl rfl <| .seq <| .region rfl <| .z rfl rfl <| .nil <| sq_n ?_
    refine .see0 (seeEm0 (v := .sn) 6 29 (.inl rfl)) ?_
    refine .ret <| sq_r ?_
    refine retQ_r (Le.refl _) (.tmp rfl .nil) rfl ?_
    exact ⟨_, _, rfl, rfl, AccR.nil⟩
  · refine .seq <| .region rfl <| .z rfl rfl <| .nil <| sq_n <| .seq <| .seq <| .region rfl <| .m rfl rfl <| .p .no rfl (.binE rfl rfl hno) <| .nil <| sq_n <| .condF rfl rfl <| .skip <| sq_n ?_
    refine .seq <| .region rfl <| .bs .no rfl (qs := []) (c := []) rfl sl_25 el_29 (by decide) rfl fun b1 => .m rfl rfl <| .see0 (seeEm0 6 29 (show Em (.sl b1 0 0 0) from .inr (.inr ⟨_, _, rfl⟩))) ?_
    refine .appR .no rfl rfl rfl rfl rfl (fun _ => .hd) sl_25 sl_25 el_29 (AccR.em (R := RoomR) (s := 6) (g := g) (.inr (.inr ⟨_, _, rfl⟩))) h0_0 (fun _ _ h => RoomR.one h) (by simpa using hl) fun new3 v3 hn3 => .as .hd fun av3 => ?_
    have ha3 := AccR.app (R := RoomR) (g := g) (ys := p0) (AccR.em (R := RoomR) (s := 6) (g := g) (show Em (.sl b1 0 0 0) from .inr (.inr ⟨_, _, rfl⟩))) hn3 (by simpa using hl) av3
    refine .z rfl rfl <| .nil <| sq_n <| .drop (.cons_cons _ (.cons _ (List.Sublist.refl _))) <| .ret ?_
    refine retQ_r (Le.refl _) (.tmp rfl .nil) rfl ?_
    exact ⟨_, _, rfl, rfl, ha3⟩
def F_r04_Only (p0 : (List Room)) (p1 : Int) (p2 : Int) : Option ((List Room)) := (ck (decide (([] : List Room).length + p0.length ≤ 1000000)) (((atI p0 p1).bind fun y4 => some (List.set p0 (p1).toNat (Room.mk y4.id y4.kind y4.op y4.cr p2 p2)))))
set_option maxHeartbeats 1000000 in
theorem F_r04_Only_ok (p0 : (List Room)) (p1 : Int) (p2 : Int) (v0_0 : V) (g : G) (h0_0 : RS RoomR 6 g v0_0 p0) (r : (List Room)) (hF : F_r04_Only p0 p1 p2 = some r) : Fw Tryz.prog natS (.f 47 [] []) [v0_0, .i .i64 p1, .i .i64 p2] g [] fun g' ml' q => ∃ (ds0 : List V) (w0_0 : V), ml' = [.acc w0_0 6 ds0 29] ∧ q = (w0_0) ∧ AccR RoomR 6 g' w0_0 ds0 r := by
  unfold F_r04_Only at hF
  have lh0_0 := h0_0.1
  refine Fw.enter (N := 19) (al := [(2, _), (1, _), (0, _)]) Tryz.func47 (by kernel_rfl) (by kernel_rfl) rfl rfl rfl rfl ?_
  intro B
  refine .seq <| .region rfl <| .z rfl rfl <| .nil <| sq_n <| .seq <| .region rfl <| .bs .no rfl (qs := []) (c := []) rfl sl_25 el_29 (by decide) rfl fun b1 => .m rfl rfl <| .see0 (seeEm0 6 29 (show Em (.sl b1 0 0 0) from .inr (.inr ⟨_, _, rfl⟩))) ?_
  obtain ⟨hl3, hF⟩ := ckS hF
  have hl3 := of_decide_eq_true hl3
  refine .appR .no rfl rfl rfl rfl rfl (fun _ => .hd) sl_25 sl_25 el_29 (AccR.em (R := RoomR) (s := 6) (g := g) (show Em (.sl b1 0 0 0) from .inr (.inr ⟨_, _, rfl⟩))) h0_0 (fun _ _ h => RoomR.one h) hl3 fun new3 v3 hn3 => .as .hd fun av3 => ?_
  have ha3 := AccR.app (R := RoomR) (g := g) (ys := p0) (AccR.em (R := RoomR) (s := 6) (g := g) (show Em (.sl b1 0 0 0) from .inr (.inr ⟨_, _, rfl⟩))) hn3 hl3 av3
  have lha3 := ha3.le
  refine .z rfl rfl <| .nil <| sq_n <| .seq <| .region rfl <| .m rfl rfl <| .m rfl rfl <| .m rfl rfl <| .m rfl rfl <| .p .no rfl (.build (qs := [(0, _), (1, _)]) (cs := [_, _]) rfl b_27 rfl) ?_
  obtain ⟨y4, hy4, hF⟩ := bS hF
  have hj4 := atI_lt hy4
  have hy4 := atI_get hy4
  refine .ixA .no rfl rfl ha3 rfl e_25 (by decide) hj4.1 hy4 ?_
  intro b4 n4 cs4 hv4 hc4 hd4 hr4
  obtain rfl := hr4
  refine .p .no rfl (.fa rfl f_29_4) <| .see0 (seeBlk0 .hd hv4) <| .st (cs' := _) .no rfl rfl rfl rfl s_27 rfl rfl .hd (AccR.ble (k := 4) ha3 hy4 (by decide)) rfl ?_
  have ha5 := AccR.set (k := 4) (us := [(.i .i64 p2), (.i .i64 p2)]) (y' := (Room.mk y4.id y4.kind y4.op y4.cr p2 p2)) ha3 hy4 hd4 (Nat.le_of_ble_eq_true rfl) rfl
  have hd5 := AccR.part (k := 4) (us := [(.i .i64 p2), (.i .i64 p2)]) ha3 hy4 hd4 (Nat.le_of_ble_eq_true rfl)
  refine .see0 (seeAcc0 .hd hv4 ha5.sh) ?_
  have lha5 := ha5.le
  refine .nil <| sq_n <| .seq <| .region rfl <| .m rfl rfl <| .z rfl rfl <| .nil <| sq_n <| .drop (.cons_cons _ (.cons _ (List.Sublist.refl _))) <| .ret ?_
  obtain rfl := sI hF
  refine retQ_r (Le.refl _) (.tmp rfl .nil) rfl ?_
  exact ⟨_, _, rfl, rfl, ha5⟩
structure L_code_Rests_1 where
  v1_2 : V
  cs1_3 : List V
  d1_1 : List Int
  k1_5 : Nat
def F_code_Rests_l1 (p0 : Code) (p1 : Int) (p2 : Int) (p3 : (List Room)) (q2 : (Int × Int) × Int) : List Room → List Int → Nat → Option ((List Int))
  | [], d1_1, k1_5 => some (d1_1)
  | y1 :: ys1, d1_1, k1_5 => ((F_slices_Clone_api_Room_api_Room p3).bind fun q10 => ((atI q10 (k1_5 : Int)).bind fun y11 => ((F_code_Judge p0 p1 p2 (List.set q10 k1_5 (Room.mk y11.id y11.kind y11.op y11.cr y1.lo y1.lo))).bind fun q13 => (cond (!((decide (q13.1.1 = q2.1.1)) && ((decide (q13.1.2 = q2.1.2)) && true))) ((ck (decide (d1_1.length + 1 ≤ 1000000)) (F_code_Rests_l1 p0 p1 p2 p3 q2 ys1 (d1_1 ++ [y1.id]) (k1_5 + 1)))) (((F_slices_Clone_api_Room_api_Room p3).bind fun q19 => ((atI q19 (k1_5 : Int)).bind fun y20 => ((F_code_Judge p0 p1 p2 (List.set q19 k1_5 (Room.mk y20.id y20.kind y20.op y20.cr y1.hi y1.hi))).bind fun q22 => (cond (!((decide (q22.1.1 = q2.1.1)) && ((decide (q22.1.2 = q2.1.2)) && true))) ((ck (decide (d1_1.length + 1 ≤ 1000000)) (F_code_Rests_l1 p0 p1 p2 p3 q2 ys1 (d1_1 ++ [y1.id]) (k1_5 + 1)))) (F_code_Rests_l1 p0 p1 p2 p3 q2 ys1 d1_1 (k1_5 + 1)))))))))))
def F_code_Rests (p0 : Code) (p1 : Int) (p2 : Int) (p3 : (List Room)) : Option ((List Int) × Int) := ((F_code_Judge p0 p1 p2 p3).bind fun q2 => (cond (!(decide (q2.2 = 0))) (some ([], q2.2)) (((F_code_Rests_l1 p0 p1 p2 p3 q2 p3 [] 0).bind fun o1_0_1 => some (o1_0_1, 0)))))
set_option maxHeartbeats 1000000 in
theorem F_code_Rests_ok (p0 : Code) (p1 : Int) (p2 : Int) (p3 : (List Room)) (v3_0 : V) (cs0 : List V) (g : G) (h0 : CodeR g cs0 p0) (h3_0 : RS RoomR 6 g v3_0 p3) (r : (List Int) × Int) (hF : F_code_Rests p0 p1 p2 p3 = some r) : Fw Tryz.prog natS (.f 40 [] []) [.agg cs0, .i .i64 p1, .i .i64 p2, v3_0] g [] fun g' ml' q => ml' = [] ∧ ∃ (w0_0 : V), q = (.tup [w0_0, .i .i64 r.2]) ∧ RS IntR 1 g' w0_0 r.1 := by
  refine Fw.drop ?_
  unfold F_code_Rests at hF
  obtain ⟨vq0, rfl, hcq0⟩ := h0
  have lh0_1 := hcq0.1
  have lh3_0 := h3_0.1
  refine Fw.enter (N := 78) (al := [(3, _), (2, _), (1, _), (0, _)]) Tryz.func40 (by kernel_rfl) (by kernel_rfl) rfl rfl rfl rfl ?_
  intro B
  refine .seq <| .region rfl <| .box .no rfl rfl rfl rfl fun b1 => .z rfl rfl <| .z rfl rfl <| .nil <| sq_n <| .seq <| .region rfl <| .ld .no rfl (.a (vs := [_, _]) rfl .hd a_24 s_24 rfl rfl) <| .m rfl rfl <| .m rfl rfl <| .m rfl rfl ?_
  obtain ⟨q2, hq2, hF⟩ := bS hF
  refine .callV .no rfl rfl rfl (F_code_Judge_ok p0 p1 p2 p3 _ _ _ ⟨_, rfl, hcq0⟩ h3_0 _ hq2) <| .m rfl rfl <| .p .no rfl (.ext rfl rfl) <| .p .no rfl (.ext rfl rfl) <| .alloc .no rfl z_27 fun b3 => .st (cs' := [_, _]) .no rfl rfl rfl rfl s_27 rfl rfl .hd rfl rfl <| .z rfl rfl <| .nil <| sq_n <| .seq <| .seq <| .region rfl <| .m rfl rfl <| .b rfl rfl rfl rfl <| .nil <| sq_n <| .cond rfl (fun h4 => ?_) (fun h4 => ?_)
  ·have kh4 := dF (nT h4)
   have hF := cT h4 hF
   refine .seq <| .region rfl <| .m rfl rfl <| .z rfl rfl <| .z rfl rfl <| .nil <| sq_n <| .ret <| sq_r ?_
   obtain rfl := sI hF
   refine retQ_r (Le.refl _) (.tmp rfl (.tmp rfl .nil)) rfl ?_
   exact ⟨_, rfl, RS.nil⟩
  ·have kh4 := dT (nF h4)
   have hF := cF h4 hF
   refine .skip <| sq_n <| .seq <| .region rfl <| .z rfl rfl <| .nil <| sq_n <| .seq <| .seq <| .region rfl <| .m rfl rfl <| .p .no rfl (.lenR rfl rfl rfl e_25 h3_0) <| .m rfl rfl <| .nil <| sq_n <| .block <| .acc 1 3 ?_
   obtain ⟨o1, hF, hG1⟩ := bS hF
   refine .loopx (α := L_code_Rests_1) [(1, _), (2, _), (3, _), (4, _), (10, _), (31, _), (32, _)] [_, _] (fun fx x => (12, x.v1_2) :: (33, .i .i64 (x.k1_5 : Int)) :: fx) (fun mx x => [.acc x.v1_2 1 x.cs1_3 3, rg mx 0, rg mx 1]) (fun x g' => AccR IntR 1 g' x.v1_2 x.cs1_3 x.d1_1 ∧ x.k1_5 ≤ p3.length ∧ F_code_Rests_l1 p0 p1 p2 p3 q2 (p3.drop x.k1_5) x.d1_1 x.k1_5 = some o1) (fun x => p3.length - x.k1_5) (L_code_Rests_1.mk _ _ [] 0) ⟨rfl, rfl, rfl, rfl, rfl, rfl, rfl, rfl, rfl, trivial⟩ (List.Sublist.refl _) ⟨AccR.nil, (by first | omega | (dsimp only; omega)), hF⟩ ?_
   intro x1 gl1 hlo1 hJ1
   obtain ⟨v1_2, cs1_3, d1_1, k1_5⟩ := x1
   try dsimp only at hJ1
   obtain ⟨ha1_4, hk1, hF⟩ := hJ1
   refine .al0 [(12, v1_2), (33, .i .i64 (k1_5 : Int)), (1, _), (2, _), (3, _), (4, _), (10, _), (31, _), (32, _)] ?_
   replace hcq0 := hcq0.mono VersionR.mono hlo1
   replace h3_0 := h3_0.mono RoomR.mono hlo1
   have lha1_4 := ha1_4.le
   refine .seq <| .region rfl <| .b rfl rfl rfl rfl <| .nil <| sq_n <| .seq <| .cond rfl (fun h6 => ?_) (fun h6 => ?_)
   ·have kh6 := dT h6
    obtain ⟨y1, hy1⟩ := getK (l := p3) (k := k1_5) kh6
    rw [dc hy1, F_code_Rests_l1] at hF
    refine .skip <| sq_n <| .seq <| .block <| .seq <| .region rfl <| .m rfl rfl <| .ixk (j := k1_5) .no rfl rfl h3_0 rfl e_25 hy1 ?_
    rintro b7 o7 _ hq7 rfl
    refine .ld .no rfl (.pa 0 (vs := [_, _, _, _, _, _]) rfl hq7 rfl a_29 s_29 rfl rfl) <| .alloc .no rfl z_29 fun b8 => .z rfl rfl <| .st (cs' := [_, _, _, _, _, _]) .no rfl rfl rfl rfl s_29 rfl rfl .hd rfl rfl <| .nil <| sq_n <| .seq <| .region rfl <| .p .no rfl (.fa rfl f_29_4) <| .p .no rfl (.fa rfl f_27_0) <| .ld .no rfl (.s rfl .hd a_3 rfl) <| .p .no rfl (.fa rfl f_29_4) <| .p .no rfl (.fa rfl f_27_1) <| .ld .no rfl (.s rfl .hd a_3 rfl) <| .bs .no rfl (qs := [(0, _), (1, _)]) (c := [_, _]) rfl sl_66 el_3 (by decide) rfl fun b9 => .p .no rfl (.len rfl rfl rfl (lenV_sl e_66 .sl)) <| .m rfl rfl <| .nil <| sq_n <| .block <| .unroll <| .seq <| .region rfl <| .b rfl rfl rfl rfl <| .nil <| sq_n <| .seq <| .condT rfl (by decide) <| .skip <| sq_n <| .seq <| .block <| .seq <| .region rfl ?_
    refine .p .no rfl (.ixn (j := 0) rfl .sl rfl e_66 (by decide)) <| .ld .no rfl (.s rfl .hd a_3 rfl) <| .z rfl rfl <| .nil <| sq_n <| .seq <| .region rfl <| .m rfl rfl ?_
    obtain ⟨q10, hq10, hF⟩ := bS hF
    refine .call .no rfl rfl rfl (F_slices_Clone_api_Room_api_Room_ok p3 _ _ h3_0 _ hq10) ?_
    rintro g10 ml10 r10 hle10 ⟨cs10_0, w10_0, rfl, rfl, ha10_0⟩
    replace hcq0 := hcq0.mono VersionR.mono hle10
    replace h3_0 := h3_0.mono RoomR.mono hle10
    replace ha1_4 := ha1_4.mono IntR.mono hle10
    have lha10_0 := ha10_0.le
    refine .z rfl rfl <| .nil <| sq_n <| .seq <| .region rfl <| .m rfl rfl <| .m rfl rfl <| .m rfl rfl <| .m rfl rfl <| .p .no rfl (.build (qs := [(0, _), (1, _)]) (cs := [_, _]) rfl b_27 rfl) ?_
    obtain ⟨y11, hy11, hF⟩ := bS hF
    have hj11 := atI_lt hy11
    have hy11 := atI_get hy11
    refine .ixA .no rfl rfl ha10_0 rfl e_25 (by decide) hj11.1 hy11 ?_
    intro b11 n11 cs11 hv11 hc11 hd11 hr11
    obtain rfl := hr11
    refine .p .no rfl (.fa rfl f_29_4) <| .see0 (seeBlk0 .hd hv11) <| .st (cs' := _) .no rfl rfl rfl rfl s_27 rfl rfl .hd (AccR.ble (k := 4) ha10_0 hy11 (by decide)) rfl ?_
    have ha12 := AccR.set (k := 4) (us := [(.i .i64 y1.lo), (.i .i64 y1.lo)]) (y' := (Room.mk y11.id y11.kind y11.op y11.cr y1.lo y1.lo)) ha10_0 hy11 hd11 (Nat.le_of_ble_eq_true rfl) rfl
    have hd12 := AccR.part (k := 4) (us := [(.i .i64 y1.lo), (.i .i64 y1.lo)]) ha10_0 hy11 hd11 (Nat.le_of_ble_eq_true rfl)
    refine .see0 (seeAcc0 .hd hv11 ha12.sh) ?_
    have lha12 := ha12.le
    refine .nil <| sq_n <| .seq <| .region rfl <| .ld .no rfl (.a (vs := [_, _]) rfl (.tl (.tl (.tl (.tl (.tl .hd))))) a_24 s_24 rfl rfl) <| .m rfl rfl <| .m rfl rfl <| .m rfl rfl <| .see (seeFreeze RoomR.mono .hd (by decide) ha12) ?_
    rintro gz14 ⟨hle14, hz14⟩
    replace hcq0 := hcq0.mono VersionR.mono hle14
    replace h3_0 := h3_0.mono RoomR.mono hle14
    replace ha1_4 := ha1_4.mono IntR.mono hle14
    obtain ⟨q13, hq13, hF⟩ := bS hF
    refine .callV .no rfl rfl rfl (F_code_Judge_ok p0 p1 p2 (List.set q10 k1_5 (Room.mk y11.id y11.kind y11.op y11.cr y1.lo y1.lo)) _ _ _ ⟨_, rfl, hcq0⟩ hz14 _ hq13) <| .m rfl rfl <| .p .no rfl (.ext rfl rfl) <| .p .no rfl (.ext rfl rfl) <| .alloc .no rfl z_27 fun b15 => .st (cs' := [_, _]) .no rfl rfl rfl rfl s_27 rfl rfl .hd rfl rfl <| .z rfl rfl <| .nil <| sq_n <| .seq <| .region rfl <| .ld .no rfl (.a (vs := [_, _]) rfl .hd a_27 s_27 rfl rfl) <| .ld .no rfl (.a (vs := [_, _]) rfl (.tl (.tl (.tl (.tl .hd)))) a_27 s_27 rfl rfl) <| .p .no rfl (.binE rfl rfl (binV_neq (by kernel_rfl) (eq_27 _ _ _ _))) ?_
    refine .nil <| sq_n <| .cond rfl (fun h16 => ?_) (fun h16 => ?_)
    ·have kh16 := (nT h16)
     have hF := cT h16 hF
     refine .seq <| .region rfl <| .m rfl rfl <| .p .no rfl (.fa rfl f_29_0) <| .ld .no rfl (.s rfl (.tl (.tl .hd)) a_3 rfl) <| .bs .no rfl (qs := [(0, _)]) (c := [_]) rfl sl_66 el_3 (by decide) rfl fun b17 => ?_
     obtain ⟨hl18, hF⟩ := ckS hF
     have hl18 := of_decide_eq_true hl18
     refine .x .no rfl (.appA (m := 1) (new := [_]) rfl rfl rfl (.tl (.tl (.tl (.tl .hd)))) sl_66 el_3 (.of rfl .sl sl_66 .hd (Nat.le_of_ble_eq_true rfl) rfl) (by decide) rfl (AccR.room (R := IntR) (ys := [y1.id]) ha1_4 (Ls.cons (c := [_]) rfl rfl .nil) hl18) rfl) fun v18 => .as (.tl (.tl (.tl (.tl .hd)))) fun av18 => ?_
     have ha18 := AccR.app (R := IntR) (g := gz14) (ys := [y1.id]) ha1_4 (Ls.cons (c := [_]) rfl rfl .nil) hl18 av18
     have lha18 := ha18.le
     refine .z rfl rfl <| .nil <| sq_n <| .exit <| bq_e rfl <| sq_e <| sq_e <| bq_x rfl <| bq_n <| sq_n <| .region rfl <| .p .no rfl (.inc1 rfl rfl (by omega)) <| .m rfl rfl <| .nil <| loopQ_n (L_code_Rests_1.mk _ _ (d1_1 ++ [y1.id]) (k1_5 + 1)) ⟨rfl, rfl, rfl, rfl, rfl, rfl, rfl, rfl, rfl, trivial⟩ (.cons _ (.cons _ (.cons _ (.cons _ (List.Sublist.refl _))))) (hle10.trans hle14) ?_ ?_
     ·exact ⟨ha18, (atN_lt hy1), hF⟩
     ·simp only; omega
    ·have kh16 := (nF h16)
     have hF := cF h16 hF
     refine .skip <| bq_n <| sq_n <| .region rfl <| .p .no rfl (.addL (c := 1) rfl rfl rfl (by decide)) <| .m rfl rfl <| .nil <| sq_n <| .unroll <| .seq <| .region rfl <| .b rfl rfl rfl rfl <| .nil <| sq_n <| .seq <| .condT rfl (by decide) <| .skip <| sq_n <| .seq <| .block <| .seq <| .region rfl <| .p .no rfl (.ixn (j := 1) rfl .sl rfl e_66 (by decide)) <| .ld .no rfl (.s rfl (.tl .hd) a_3 rfl) <| .z rfl rfl <| .nil <| sq_n <| .seq <| .region rfl <| .m rfl rfl ?_
     obtain ⟨q19, hq19, hF⟩ := bS hF
     refine .call .no rfl rfl rfl (F_slices_Clone_api_Room_api_Room_ok p3 _ _ h3_0 _ hq19) ?_
     rintro g19 ml19 r19 hle19 ⟨cs19_0, w19_0, rfl, rfl, ha19_0⟩
     replace hcq0 := hcq0.mono VersionR.mono hle19
     replace ha1_4 := ha1_4.mono IntR.mono hle19
     have lha19_0 := ha19_0.le
     refine .z rfl rfl <| .nil <| sq_n <| .seq <| .region rfl <| .m rfl rfl <| .m rfl rfl <| .m rfl rfl <| .m rfl rfl <| .p .no rfl (.build (qs := [(0, _), (1, _)]) (cs := [_, _]) rfl b_27 rfl) ?_
     obtain ⟨y20, hy20, hF⟩ := bS hF
     have hj20 := atI_lt hy20
     have hy20 := atI_get hy20
     refine .ixA .no rfl rfl ha19_0 rfl e_25 (by decide) hj20.1 hy20 ?_
     intro b20 n20 cs20 hv20 hc20 hd20 hr20
     obtain rfl := hr20
     refine .p .no rfl (.fa rfl f_29_4) <| .see0 (seeBlk0 .hd hv20) <| .st (cs' := _) .no rfl rfl rfl rfl s_27 rfl rfl .hd (AccR.ble (k := 4) ha19_0 hy20 (by decide)) rfl ?_
     have ha21 := AccR.set (k := 4) (us := [(.i .i64 y1.hi), (.i .i64 y1.hi)]) (y' := (Room.mk y20.id y20.kind y20.op y20.cr y1.hi y1.hi)) ha19_0 hy20 hd20 (Nat.le_of_ble_eq_true rfl) rfl
     have hd21 := AccR.part (k := 4) (us := [(.i .i64 y1.hi), (.i .i64 y1.hi)]) ha19_0 hy20 hd20 (Nat.le_of_ble_eq_true rfl)
     refine .see0 (seeAcc0 .hd hv20 ha21.sh) ?_
     have lha21 := ha21.le
     refine .nil <| sq_n <| .seq <| .region rfl <| .ld .no rfl (.a (vs := [_, _]) rfl (.tl (.tl (.tl (.tl (.tl (.tl .hd)))))) a_24 s_24 rfl rfl) <| .m rfl rfl <| .m rfl rfl <| .m rfl rfl <| .see (seeFreeze RoomR.mono .hd (by decide) ha21) ?_
     rintro gz23 ⟨hle23, hz23⟩
     replace hcq0 := hcq0.mono VersionR.mono hle23
     replace ha1_4 := ha1_4.mono IntR.mono hle23
     obtain ⟨q22, hq22, hF⟩ := bS hF
     refine .callV .no rfl rfl rfl (F_code_Judge_ok p0 p1 p2 (List.set q19 k1_5 (Room.mk y20.id y20.kind y20.op y20.cr y1.hi y1.hi)) _ _ _ ⟨_, rfl, hcq0⟩ hz23 _ hq22) <| .m rfl rfl <| .p .no rfl (.ext rfl rfl) <| .p .no rfl (.ext rfl rfl) <| .alloc .no rfl z_27 fun b24 => .st (cs' := [_, _]) .no rfl rfl rfl rfl s_27 rfl rfl .hd rfl rfl <| .z rfl rfl <| .nil <| sq_n <| .seq <| .region rfl <| .ld .no rfl (.a (vs := [_, _]) rfl .hd a_27 s_27 rfl rfl) <| .ld .no rfl (.a (vs := [_, _]) rfl (.tl (.tl (.tl (.tl (.tl .hd))))) a_27 s_27 rfl rfl) <| .p .no rfl (.binE rfl rfl (binV_neq (by kernel_rfl) (eq_27 _ _ _ _))) ?_
     refine .nil <| sq_n <| .cond rfl (fun h25 => ?_) (fun h25 => ?_)
     ·have kh25 := (nT h25)
      have hF := cT h25 hF
      refine .seq <| .region rfl <| .m rfl rfl <| .p .no rfl (.fa rfl f_29_0) <| .ld .no rfl (.s rfl (.tl (.tl (.tl .hd))) a_3 rfl) <| .bs .no rfl (qs := [(0, _)]) (c := [_]) rfl sl_66 el_3 (by decide) rfl fun b26 => ?_
      obtain ⟨hl27, hF⟩ := ckS hF
      have hl27 := of_decide_eq_true hl27
      refine .x .no rfl (.appA (m := 1) (new := [_]) rfl rfl rfl (.tl (.tl (.tl (.tl (.tl .hd))))) sl_66 el_3 (.of rfl .sl sl_66 .hd (Nat.le_of_ble_eq_true rfl) rfl) (by decide) rfl (AccR.room (R := IntR) (ys := [y1.id]) ha1_4 (Ls.cons (c := [_]) rfl rfl .nil) hl27) rfl) fun v27 => .as (.tl (.tl (.tl (.tl (.tl .hd))))) fun av27 => ?_
      have ha27 := AccR.app (R := IntR) (g := gz23) (ys := [y1.id]) ha1_4 (Ls.cons (c := [_]) rfl rfl .nil) hl27 av27
      have lha27 := ha27.le
      refine .z rfl rfl <| .nil <| sq_n <| .exit <| bq_e rfl <| sq_e <| sq_e <| bq_x rfl <| bq_n <| sq_n <| .region rfl <| .p .no rfl (.inc1 rfl rfl (by omega)) <| .m rfl rfl <| .nil <| loopQ_n (L_code_Rests_1.mk _ _ (d1_1 ++ [y1.id]) (k1_5 + 1)) ⟨rfl, rfl, rfl, rfl, rfl, rfl, rfl, rfl, rfl, trivial⟩ (.cons _ (.cons _ (.cons _ (.cons _ (.cons _ (List.Sublist.refl _)))))) (((hle10.trans hle14).trans hle19).trans hle23) ?_ ?_
      ·exact ⟨ha27, (atN_lt hy1), hF⟩
      ·simp only; omega
     ·have kh25 := (nF h25)
      have hF := cF h25 hF
      refine .skip <| bq_n <| sq_n <| .region rfl <| .p .no rfl (.addL (c := 2) rfl rfl rfl (by decide)) <| .m rfl rfl <| .nil <| sq_n <| .unroll <| .seq <| .region rfl <| .b rfl rfl rfl rfl <| .nil <| sq_n <| .seq <| .condF rfl (by decide) <| .exit <| sq_e <| sq_e <| bq_x rfl <| bq_n <| sq_n <| .region rfl <| .p .no rfl (.inc1 rfl rfl (by omega)) <| .m rfl rfl <| .nil <| loopQ_n (L_code_Rests_1.mk _ _ d1_1 (k1_5 + 1)) ⟨rfl, rfl, rfl, rfl, rfl, rfl, rfl, rfl, rfl, trivial⟩ (.cons _ (.cons _ (.cons _ (.cons _ (List.Sublist.refl _))))) (((hle10.trans hle14).trans hle19).trans hle23) ?_ ?_
      ·exact ⟨ha1_4, (atN_lt hy1), hF⟩
      ·simp only; omega
   ·have kh6 := dF h6
    rw [dn (by omega), F_code_Rests_l1] at hF
    obtain rfl := sI hF
    have hF := hG1
    refine .exit <| sq_e <| lq_e <| bq_x rfl <| sq_n <| .seq <| .region rfl <| .m rfl rfl <| .z rfl rfl <| .z rfl rfl <| .nil <| sq_n <| .see (seeFreeze IntR.mono .hd (by decide) ha1_4) ?_
    rintro gz28 ⟨hle28, hz28⟩
    refine .ret ?_
    obtain rfl := sI hF
    refine retQ_r (hlo1.trans hle28) (.tmp rfl (.tmp rfl .nil)) rfl ?_
    exact ⟨_, rfl, hz28⟩
end Go.Proofs.YtjflgemfeofciaaGreatDoor
