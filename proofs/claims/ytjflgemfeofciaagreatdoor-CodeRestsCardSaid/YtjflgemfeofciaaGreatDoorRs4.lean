import Derived.Test.YtjflgemfeofciaaGreatDoorRj4
import Derived.Test.YtjflgemfeofciaaGreatDoorQa4
/- Layer 4: rooms put to their ends (Only, Rests) and days, both sides. -/
namespace Go.Proofs.YtjflgemfeofciaaGreatDoor
open Go Go.Ev
set_option linter.unusedVariables false
set_option linter.unusedSimpArgs false
set_option maxRecDepth 10000
def F_slices_Clone_api_Room_api_Room (l : List Room) : Option (List Room) := ck (decide (l.length ≤ 1000000)) (some l)
theorem F_slices_Clone_api_Room_api_Room_ok (p0 : (List Room)) (v0_0 : V) (g : G) (h0_0 : RS RoomR 6 g v0_0 p0) (r : (List Room)) (hF : F_slices_Clone_api_Room_api_Room p0 = some r) : Fw Tryz.prog natS (.f 97 [] []) [v0_0] g [] fun g' ml' q => ∃ (ds0 : List V) (w0_0 : V), ml' = [.acc w0_0 6 ds0 29] ∧ q = (w0_0) ∧ AccR RoomR 6 g' w0_0 ds0 r := by
  obtain ⟨hl, hF⟩ := ckS hF
  obtain rfl := sI hF
  have hl := of_decide_eq_true hl
  refine Fw.enter (N := 8) (al := [(0, _)]) Tryz.func97 (by kernel_rfl) (by kernel_rfl) rfl rfl rfl rfl ?_
  intro B
  obtain ⟨h0, hs⟩ := id h0_0
  have hno : (v0_0 = .sn ∧ p0 = []) ∨ binV Tryz.prog .eql 25 (.tmp 3) (.const (.slice none 0 0)) v0_0 .sn = some (.b false) := by
    rcases hs with ⟨h, e⟩ | ⟨h | h, e⟩ | ⟨b, o, h, -⟩
    · exact .inl ⟨h, e⟩
    · subst h; exact .inr (by kernel_rfl)
    · subst h; exact .inr (by kernel_rfl)
    · cases h <;> exact .inr (by kernel_rfl)
  rcases hno with ⟨rfl, rfl⟩ | hno
  · refine .seq <| .region rfl <| .z rfl rfl <| .nil <| sq_n <| .seq <| .seq <| .region rfl <| .m rfl rfl <| .p .no rfl (.binE rfl rfl (v := .b true) (by kernel_rfl)) <| .nil <| sq_n <| .condT rfl rfl <| .seq <| .region rfl <| .z rfl rfl <| .nil <| sq_n ?_
    refine .see0 (seeEm0 (v := .sn) 6 29 (.inl rfl)) ?_
    refine .ret <| sq_r ?_
    refine retQ_r (Le.refl _) (.tmp rfl .nil) rfl ?_
    exact ⟨_, _, rfl, rfl, AccR.nil⟩
  · refine .seq <| .region rfl <| .z rfl rfl <| .nil <| sq_n <| .seq <| .seq <| .region rfl <| .m rfl rfl <| .p .no rfl (.binE rfl rfl hno) <| .nil <| sq_n <| .condF rfl rfl <| .skip <| sq_n ?_
    refine .seq <| .region rfl <| .bs .no rfl (qs := []) (c := []) rfl sl_25 el_29 (by decide) rfl fun b1 => .m rfl rfl <| .see0 (seeEm0 6 29 (show Em (.sl b1 0 0 0) from .inr (.inr ⟨_, _, rfl⟩))) ?_
    refine .appR .no rfl rfl rfl rfl rfl (fun _ => .hd) sl_25 sl_25 el_29 (AccR.em (R := RoomR) (s := 6) (g := g) (.inr (.inr ⟨_, _, rfl⟩))) h0_0 (fun _ _ h => RoomR.one h) (by simpa using hl) fun new3 v3 hn3 => .as .hd fun av3 => ?_
    have ha3 := AccR.app (R := RoomR) (g := g) (ys := p0) (AccR.em (R := RoomR) (s := 6) (g := g) (show Em (.sl b1 0 0 0) from .inr (.inr ⟨_, _, rfl⟩))) hn3 (by simpa using hl) av3
    refine .z rfl rfl <| .nil <| sq_n <| .drop (.cons_cons _ (.cons _ (List.Sublist.refl _))) <| .ret ?_
    refine retQ_r (Le.refl _) (.tmp rfl .nil) rfl ?_
    exact ⟨_, _, rfl, rfl, ha3⟩
def F_r04_Only (p0 : (List Room)) (p1 : Int) (p2 : Int) : Option ((List Room)) := (ck (decide (([] : List Room).length + p0.length ≤ 1000000)) (((atI p0 p1).bind fun y4 => some (List.set p0 (p1).toNat (Room.mk y4.id y4.kind y4.op y4.cr p2 p2)))))
set_option maxHeartbeats 1000000 in
theorem F_r04_Only_ok (p0 : (List Room)) (p1 : Int) (p2 : Int) (v0_0 : V) (g : G) (h0_0 : RS RoomR 6 g v0_0 p0) (r : (List Room)) (hF : F_r04_Only p0 p1 p2 = some r) : Fw Tryz.prog natS (.f 47 [] []) [v0_0, .i .i64 p1, .i .i64 p2] g [] fun g' ml' q => ∃ (ds0 : List V) (w0_0 : V), ml' = [.acc w0_0 6 ds0 29] ∧ q = (w0_0) ∧ AccR RoomR 6 g' w0_0 ds0 r := by
  unfold F_r04_Only at hF
  have lh0_0 := h0_0.1
  refine Fw.enter (N := 19) (al := [(2, _), (1, _), (0, _)]) Tryz.func47 (by kernel_rfl) (by kernel_rfl) rfl rfl rfl rfl ?_
  intro B
  refine .seq <| .region rfl <| .z rfl rfl <| .nil <| sq_n <| .seq <| .region rfl <| .bs .no rfl (qs := []) (c := []) rfl sl_25 el_29 (by decide) rfl fun b1 => .m rfl rfl <| .see0 (seeEm0 6 29 (show Em (.sl b1 0 0 0) from .inr (.inr ⟨_, _, rfl⟩))) ?_
  obtain ⟨hl3, hF⟩ := ckS hF
  have hl3 := of_decide_eq_true hl3
  refine .appR .no rfl rfl rfl rfl rfl (fun _ => .hd) sl_25 sl_25 el_29 (AccR.em (R := RoomR) (s := 6) (g := g) (show Em (.sl b1 0 0 0) from .inr (.inr ⟨_, _, rfl⟩))) h0_0 (fun _ _ h => RoomR.one h) hl3 fun new3 v3 hn3 => .as .hd fun av3 => ?_
  have ha3 := AccR.app (R := RoomR) (g := g) (ys := p0) (AccR.em (R := RoomR) (s := 6) (g := g) (show Em (.sl b1 0 0 0) from .inr (.inr ⟨_, _, rfl⟩))) hn3 hl3 av3
  have lha3 := ha3.le
  refine .z rfl rfl <| .nil <| sq_n <| .seq <| .region rfl <| .m rfl rfl <| .m rfl rfl <| .m rfl rfl <| .m rfl rfl <| .p .no rfl (.build (qs := [(0, _), (1, _)]) (cs := [_, _]) rfl b_27 rfl) ?_
  obtain ⟨y4, hy4, hF⟩ := bS hF
  have hj4 := atI_lt hy4
  have hy4 := atI_get hy4
  refine .ixA .no rfl rfl ha3 rfl e_25 (by decide) hj4.1 hy4 ?_
  intro b4 n4 cs4 hv4 hc4 hd4 hr4
  obtain rfl := hr4
  refine .p .no rfl (.fa rfl f_29_4) <| .see0 (seeBlk0 .hd hv4) <| .st (cs' := _) .no rfl rfl rfl rfl s_27 rfl rfl .hd (AccR.ble (k := 4) ha3 hy4 (by decide)) rfl ?_
  have ha5 := AccR.set (k := 4) (us := [(.i .i64 p2), (.i .i64 p2)]) (y' := (Room.mk y4.id y4.kind y4.op y4.cr p2 p2)) ha3 hy4 hd4 (Nat.le_of_ble_eq_true rfl) rfl
  have hd5 := AccR.part (k := 4) (us := [(.i .i64 p2), (.i .i64 p2)]) ha3 hy4 hd4 (Nat.le_of_ble_eq_true rfl)
  refine .see0 (seeAcc0 .hd hv4 ha5.sh) ?_
  have lha5 := ha5.le
  refine .nil <| sq_n <| .seq <| .region rfl <| .m rfl rfl <| .z rfl rfl <| .nil <| sq_n <| .drop (.cons_cons _ (.cons _ (List.Sublist.refl _))) <| .ret ?_
  obtain rfl := sI hF
  refine retQ_r (Le.refl _) (.tmp rfl .nil) rfl ?_
  exact ⟨_, _, rfl, rfl, ha5⟩
structure L_r04_Rests_1 where
  v1_2 : V
  cs1_3 : List V
  d1_1 : List Int
  k1_5 : Nat
def F_r04_Rests_l1 (p2 : Int) (p3 : (List Room)) (y4 : Version) (q6 : (Int × Int)) : List Room → List Int → Nat → Option ((List Int))
  | [], d1_1, k1_5 => some (d1_1)
  | y1 :: ys1, d1_1, k1_5 => ((F_r04_Only p3 (k1_5 : Int) y1.lo).bind fun q11 => ((F_r04_judge y4 p2 q11).bind fun q12 => (cond (!((decide (q12.1 = q6.1)) && ((decide (q12.2 = q6.2)) && true))) ((ck (decide (d1_1.length + 1 ≤ 1000000)) (F_r04_Rests_l1 p2 p3 y4 q6 ys1 (d1_1 ++ [y1.id]) (k1_5 + 1)))) (((F_r04_Only p3 (k1_5 : Int) y1.hi).bind fun q19 => ((F_r04_judge y4 p2 q19).bind fun q20 => (cond (!((decide (q20.1 = q6.1)) && ((decide (q20.2 = q6.2)) && true))) ((ck (decide (d1_1.length + 1 ≤ 1000000)) (F_r04_Rests_l1 p2 p3 y4 q6 ys1 (d1_1 ++ [y1.id]) (k1_5 + 1)))) (F_r04_Rests_l1 p2 p3 y4 q6 ys1 d1_1 (k1_5 + 1)))))))))
def F_r04_Rests (p0 : Code) (p1 : Int) (p2 : Int) (p3 : (List Room)) : Option ((List Int) × Int) := (cond (!(decide ((endE p0 p1 p2 p3) = 0))) (some ([], (endE p0 p1 p2 p3))) (((atI p0.vs (askI p0 p1 p2 p3)).bind fun y4 => ((F_r04_judge y4 p2 p3).bind fun q6 => ((F_r04_Rests_l1 p2 p3 y4 q6 p3 [] 0).bind fun o1_0_1 => some (o1_0_1, 0))))))
set_option maxHeartbeats 1000000 in
theorem F_r04_Rests_ok (p0 : Code) (p1 : Int) (p2 : Int) (p3 : (List Room)) (v3_0 : V) (cs0 : List V) (g : G) (h0 : CodeR g cs0 p0) (h3_0 : RS RoomR 6 g v3_0 p3) (r : (List Int) × Int) (hF : F_r04_Rests p0 p1 p2 p3 = some r) : Fw Tryz.prog natS (.f 41 [] []) [.agg cs0, .i .i64 p1, .i .i64 p2, v3_0] g [] fun g' ml' q => ml' = [] ∧ ∃ (w0_0 : V), q = (.tup [w0_0, .i .i64 r.2]) ∧ RS IntR 1 g' w0_0 r.1 := by
  refine Fw.drop ?_
  unfold F_r04_Rests at hF
  obtain ⟨vq0, rfl, hcq0⟩ := h0
  have lh0_1 := hcq0.1
  have lh3_0 := h3_0.1
  refine Fw.enter (N := 81) (al := [(3, _), (2, _), (1, _), (0, _)]) Tryz.func41 (by kernel_rfl) (by kernel_rfl) rfl rfl rfl rfl ?_
  intro B
  refine .seq <| .region rfl <| .box .no rfl rfl rfl rfl fun b1 => .z rfl rfl <| .z rfl rfl <| .nil <| sq_n <| .seq <| .region rfl <| .ld .no rfl (.a (vs := [_, _]) rfl .hd a_24 s_24 rfl rfl) <| .m rfl rfl <| .m rfl rfl <| .m rfl rfl <| .callV .no rfl rfl rfl (asked_ok _ _ _ _ _ _ _ ⟨_, rfl, hcq0⟩ h3_0) <| .m rfl rfl <| .p .no rfl (.ext rfl rfl) <| .p .no rfl (.ext rfl rfl) <| .z rfl rfl <| .z rfl rfl <| .nil <| sq_n <| .seq <| .seq <| .region rfl <| .m rfl rfl <| .b rfl rfl rfl rfl <| .nil <| sq_n <| .cond rfl (fun h3 => ?_) (fun h3 => ?_)
  · have kh3 := dF (nT h3)
    have hF := cT h3 hF
    refine .seq <| .region rfl <| .m rfl rfl <| .z rfl rfl <| .z rfl rfl <| .nil <| sq_n <| .ret <| sq_r ?_
    obtain rfl := sI hF
    refine retQ_r (Le.refl _) (.tmp rfl (.tmp rfl .nil)) rfl ?_
    exact ⟨_, rfl, RS.nil⟩
  · have kh3 := dT (nF h3)
    have hF := cF h3 hF
    refine .skip <| sq_n <| .seq <| .region rfl <| .p .no rfl (.fa rfl f_24_1) <| .ld .no rfl (.s rfl .hd a_22 rfl) <| .m rfl rfl ?_
    obtain ⟨y4, hy4, hF⟩ := bS hF
    have hj4 := atI_lt hy4
    refine .ixl .no rfl rfl hcq0 rfl e_22 hy4 ?_
    rintro b4 o4 _ hq4 ⟨p4, lv4, rfl, hp4, hl4⟩
    have lh4_1 := hp4.1
    have lh4_2 := (hl4 0 (by decide)).1
    have lh4_3 := (hl4 1 (by decide)).1
    have lh4_4 := (hl4 2 (by decide)).1
    have lh4_5 := (hl4 3 (by decide)).1
    have lh4_6 := (hl4 4 (by decide)).1
    have lh4_7 := (hl4 5 (by decide)).1
    have lh4_8 := (hl4 6 (by decide)).1
    have lh4_9 := (hl4 7 (by decide)).1
    have lh4_10 := (hl4 8 (by decide)).1
    have lh4_11 := (hl4 9 (by decide)).1
    refine .ld .no rfl (.pa 0 (vs := [_, _, _, _, _, _, _, _, _, _, _, _]) rfl hq4 rfl a_97 s_97 rfl rfl) <| .alloc .no rfl z_97 fun b5 => .st (cs' := [_, _, _, _, _, _, _, _, _, _, _, _]) .no rfl rfl rfl rfl s_97 rfl rfl .hd rfl (allOne_cons rfl (allOne_cons hp4.one (allOne_cons (hl4 0 (by decide)).one (allOne_cons (hl4 1 (by decide)).one (allOne_cons (hl4 2 (by decide)).one (allOne_cons (hl4 3 (by decide)).one (allOne_cons (hl4 4 (by decide)).one (allOne_cons (hl4 5 (by decide)).one (allOne_cons (hl4 6 (by decide)).one (allOne_cons (hl4 7 (by decide)).one (allOne_cons (hl4 8 (by decide)).one (allOne_cons (hl4 9 (by decide)).one rfl)))))))))))) <| .nil <| sq_n <| .seq <| .region rfl <| .ld .no rfl (.a (vs := [_, _, _, _, _, _, _, _, _, _, _, _]) rfl .hd a_97 s_97 rfl rfl) <| .m rfl rfl <| .m rfl rfl ?_
    obtain ⟨q6, hq6, hF⟩ := bS hF
    refine .callV .no rfl rfl rfl (F_r04_judge_ok y4 p2 p3 _ _ _ ⟨_, _, rfl, hp4, hl4⟩ h3_0 _ hq6) <| .alloc .no rfl z_27 fun b7 => .st (cs' := [_, _]) .no rfl rfl rfl rfl s_27 rfl rfl .hd rfl rfl <| .nil <| sq_n <| .seq <| .region rfl <| .z rfl rfl <| .nil <| sq_n <| .seq <| .seq <| .region rfl <| .z rfl rfl <| .nil <| sq_n <| .block <| .acc 1 3 ?_
    obtain ⟨o1, hF, hG1⟩ := bS hF
    refine .loopx (α := L_r04_Rests_1) [(2, _), (3, _), (12, _), (13, _)] [_, _, _] (fun fx x => (14, x.v1_2) :: (15, .i .i64 (x.k1_5 : Int)) :: fx) (fun mx x => [.acc x.v1_2 1 x.cs1_3 3, rg mx 0, rg mx 1, rg mx 2]) (fun x g' => AccR IntR 1 g' x.v1_2 x.cs1_3 x.d1_1 ∧ x.k1_5 ≤ p3.length ∧ F_r04_Rests_l1 p2 p3 y4 q6 (p3.drop x.k1_5) x.d1_1 x.k1_5 = some o1) (fun x => p3.length - x.k1_5) (L_r04_Rests_1.mk _ _ [] 0) ⟨rfl, rfl, rfl, rfl, rfl, rfl, trivial⟩ (List.Sublist.refl _) ⟨AccR.nil, (by first | omega | (dsimp only; omega)), hF⟩ ?_
    intro x1 g1 hle1 hJ1
    obtain ⟨v1_2, cs1_3, d1_1, k1_5⟩ := x1
    try dsimp only at hJ1
    obtain ⟨ha1_4, hk1, hF⟩ := hJ1
    refine .al0 [(14, v1_2), (15, .i .i64 (k1_5 : Int)), (2, _), (3, _), (12, _), (13, _)] ?_
    replace hcq0 := hcq0.mono VersionR.mono hle1
    replace h3_0 := h3_0.mono RoomR.mono hle1
    replace hq4 := hq4.mono hle1
    replace hp4 := hp4.mono PutR.mono hle1
    replace hl4 := fun k hk => (hl4 k hk).mono PieceR.mono hle1
    have lha1_4 := ha1_4.le
    refine .seq <| .seq <| .region rfl <| .m rfl rfl <| .m rfl rfl <| .p .no rfl (.lenR rfl rfl rfl e_25 h3_0) <| .b rfl rfl rfl rfl <| .nil <| sq_n <| .cond rfl (fun h9 => ?_) (fun h9 => ?_)
    · have kh9 := dT h9
      obtain ⟨y1, hy1⟩ := getK (l := p3) (k := k1_5) kh9
      rw [dc hy1, F_r04_Rests_l1] at hF
      refine .skip <| sq_n <| .seq <| .block <| .seq <| .draw (tb := [r0 0 0, r0 0 0, r0 0 0, r0 0 0, r0 0 0, r0 0 0, r0 48 0, r0 112 0, r0 240 0, r0 496 0, r0 1020 0, r0 2047 1, r0 0 0, r1 8191 2, r1 16383 2, r0 32767 2, r0 32767 2, r0 32767 2, r0 32767 2, r0 32767 2, r0 32767 2, r0 1605631 2, r0 3702783 2, r0 7897087 2, r0 16285695 2, r0 33456127 2, r0 67108863 3, r0 32767 2, r1 268435455 4, r1 536870911 4]) rfl (by kernel_rfl) (by kernel_rfl) ?_
      refine .y rfl rfl rfl (.a (vs := [_, _, _, _, _, _, _, _, _, _, _, _]) rfl (.tl (.tl .hd)) a_97 s_97 rfl rfl) <| .m rfl rfl <| .m rfl rfl <| .m rfl rfl <| .m rfl rfl <| .m rfl rfl <| .ixk (j := k1_5) .no rfl rfl h3_0 rfl e_25 hy1 ?_
      rintro b10 o10 _ hq10 rfl
      refine .p .no rfl (.fa rfl f_29_4) rfl rfl rfl <| .p .no rfl (.fa rfl f_27_0) rfl rfl rfl <| .y rfl rfl rfl (.ps 4 rfl hq10 rfl a_3 rfl) ?_
      obtain ⟨q11, hq11, hF⟩ := bS hF
      refine .call .no rfl rfl rfl rfl rfl (F_r04_Only_ok p3 (k1_5 : Int) y1.lo _ _ h3_0 _ hq11) ?_
      rintro g11 ml11 r11 hle11 ⟨cs11_0, w11_0, rfl, rfl, ha11_0⟩
      replace hcq0 := hcq0.mono VersionR.mono hle11
      replace h3_0 := h3_0.mono RoomR.mono hle11
      replace hq4 := hq4.mono hle11
      replace hp4 := hp4.mono PutR.mono hle11
      replace hl4 := fun k hk => (hl4 k hk).mono PieceR.mono hle11
      replace ha1_4 := ha1_4.mono IntR.mono hle11
      replace hq10 := hq10.mono hle11
      have lha11_0 := ha11_0.le
      refine .see (seeFreeze RoomR.mono .hd (by decide) ha11_0) ?_
      rintro gz13 ⟨hle13, hz13⟩
      replace hcq0 := hcq0.mono VersionR.mono hle13
      replace h3_0 := h3_0.mono RoomR.mono hle13
      replace hq4 := hq4.mono hle13
      replace hp4 := hp4.mono PutR.mono hle13
      replace hl4 := fun k hk => (hl4 k hk).mono PieceR.mono hle13
      replace ha1_4 := ha1_4.mono IntR.mono hle13
      replace hq10 := hq10.mono hle13
      replace ha11_0 := ha11_0.mono RoomR.mono hle13
      obtain ⟨q12, hq12, hF⟩ := bS hF
      refine .callV .no rfl rfl rfl rfl rfl (F_r04_judge_ok y4 p2 q11 _ _ _ ⟨_, _, rfl, hp4, hl4⟩ hz13 _ hq12) <| .ld (k := 2) .no rfl rfl rfl trivial (.a (vs := [_, _]) rfl (.tl .hd) a_27 s_27 rfl rfl) <| .p .no rfl (.binE rfl rfl (binV_neq (by kernel_rfl) (eq_27 _ _ _ _))) rfl rfl rfl ?_
      refine .m rfl rfl <| .split (t := 56) rfl (fun h14 => ?_) (fun h14 => ?_)
      · have kh14 := (nT h14)
        have hF := cT h14 hF
        refine .skip (.yes rfl rfl h14) rfl rfl <| .skip (.yes rfl rfl h14) rfl rfl <| .skip (.yes rfl rfl h14) rfl rfl <| .skip (.yes rfl rfl h14) rfl rfl <| .skip (.yes rfl rfl h14) rfl rfl <| .skip (.yes rfl rfl h14) rfl rfl <| .skip (.yes rfl rfl h14) rfl rfl <| .skip (.yes rfl rfl h14) rfl rfl <| .skip (.yes rfl rfl h14) rfl rfl <| .skip (.yes rfl rfl h14) rfl rfl <| .skipE (.yes rfl rfl h14) rfl rfl <| .skipE (.yes rfl rfl h14) rfl rfl <| .skip (.yes rfl rfl h14) rfl rfl <| .skip (.yes rfl rfl h14) rfl rfl <| .p .no rfl (.pickT rfl h14 rfl) rfl rfl rfl <| .nil <| sq_n <| .condT rfl rfl <| .region rfl <| .m rfl rfl <| .m rfl rfl <| .m rfl rfl <| .ixk (j := k1_5) .no rfl rfl h3_0 rfl e_25 hy1 ?_
        rintro b15 o15 _ hq15 rfl
        refine .p .no rfl (.fa rfl f_29_0) <| .ld .no rfl (.ps 0 rfl hq15 rfl a_3 rfl) <| .bs .no rfl (qs := [(0, _)]) (c := [_]) rfl sl_66 el_3 (by decide) rfl fun b16 => ?_
        obtain ⟨hl17, hF⟩ := ckS hF
        have hl17 := of_decide_eq_true hl17
        refine .x .no rfl (.appA (m := 1) (new := [_]) rfl rfl rfl (.tl .hd) sl_66 el_3 (.of rfl .sl sl_66 .hd (Nat.le_of_ble_eq_true rfl) rfl) (by decide) rfl (AccR.room (R := IntR) (ys := [y1.id]) ha1_4 (Ls.cons (c := [_]) rfl rfl .nil) hl17) rfl) fun v17 => .as (.tl .hd) fun av17 => ?_
        have ha17 := AccR.app (R := IntR) (g := gz13) (ys := [y1.id]) ha1_4 (Ls.cons (c := [_]) rfl rfl .nil) hl17 av17
        have lha17 := ha17.le
        refine .z rfl rfl <| .nil <| bq_n <| sq_n <| .region rfl <| .m rfl rfl <| .p .no rfl (.inc1 rfl rfl (by omega)) <| .z rfl rfl <| .nil <| loopQ_n (L_r04_Rests_1.mk _ _ (d1_1 ++ [y1.id]) (k1_5 + 1)) ⟨rfl, rfl, rfl, rfl, rfl, rfl, trivial⟩ (.cons _ (List.Sublist.refl _)) (hle11.trans hle13) ?_ ?_
        · exact ⟨ha17, (atN_lt hy1), hF⟩
        · simp only; omega
      · have kh14 := (nF h14)
        have hF := cF h14 hF
        refine .ld (k := 0) (.yes rfl rfl h14) rfl rfl rfl trivial (.a (vs := [_, _, _, _, _, _, _, _, _, _, _, _]) rfl (.tl (.tl .hd)) a_97 s_97 rfl rfl) <| .p (.yes rfl rfl h14) rfl (.move rfl) rfl rfl rfl <| .p (.yes rfl rfl h14) rfl (.move rfl) rfl rfl rfl <| .p (.yes rfl rfl h14) rfl (.move rfl) rfl rfl rfl <| .p (.yes rfl rfl h14) rfl (.move rfl) rfl rfl rfl <| .p (.yes rfl rfl h14) rfl (.move rfl) rfl rfl rfl <| .ixk (j := k1_5) (.yes rfl rfl h14) rfl rfl h3_0 rfl e_25 hy1 ?_
        rintro b18 o18 _ hq18 rfl
        refine .p (.yes rfl rfl h14) rfl (.fa rfl f_29_4) rfl rfl rfl <| .p (.yes rfl rfl h14) rfl (.fa rfl f_27_1) rfl rfl rfl <| .ld (k := 0) (.yes rfl rfl h14) rfl rfl rfl trivial (.ps 5 rfl hq18 rfl a_3 rfl) ?_
        obtain ⟨q19, hq19, hF⟩ := bS hF
        refine .call (.yes rfl rfl h14) rfl rfl rfl rfl rfl (F_r04_Only_ok p3 (k1_5 : Int) y1.hi _ _ h3_0 _ hq19) ?_
        rintro g19 ml19 r19 hle19 ⟨cs19_0, w19_0, rfl, rfl, ha19_0⟩
        replace hcq0 := hcq0.mono VersionR.mono hle19
        replace h3_0 := h3_0.mono RoomR.mono hle19
        replace hq4 := hq4.mono hle19
        replace hp4 := hp4.mono PutR.mono hle19
        replace hl4 := fun k hk => (hl4 k hk).mono PieceR.mono hle19
        replace ha1_4 := ha1_4.mono IntR.mono hle19
        replace hq10 := hq10.mono hle19
        replace ha11_0 := ha11_0.mono RoomR.mono hle19
        replace hz13 := hz13.mono RoomR.mono hle19
        replace hq18 := hq18.mono hle19
        have lha19_0 := ha19_0.le
        refine .see (seeFreeze RoomR.mono .hd (by decide) ha19_0) ?_
        rintro gz21 ⟨hle21, hz21⟩
        replace hcq0 := hcq0.mono VersionR.mono hle21
        replace h3_0 := h3_0.mono RoomR.mono hle21
        replace hq4 := hq4.mono hle21
        replace hp4 := hp4.mono PutR.mono hle21
        replace hl4 := fun k hk => (hl4 k hk).mono PieceR.mono hle21
        replace ha1_4 := ha1_4.mono IntR.mono hle21
        replace hq10 := hq10.mono hle21
        replace ha11_0 := ha11_0.mono RoomR.mono hle21
        replace hz13 := hz13.mono RoomR.mono hle21
        replace hq18 := hq18.mono hle21
        replace ha19_0 := ha19_0.mono RoomR.mono hle21
        obtain ⟨q20, hq20, hF⟩ := bS hF
        refine .callV (.yes rfl rfl h14) rfl rfl rfl rfl rfl (F_r04_judge_ok y4 p2 q19 _ _ _ ⟨_, _, rfl, hp4, hl4⟩ hz21 _ hq20) <| .ld (k := 2) (.yes rfl rfl h14) rfl rfl rfl trivial (.a (vs := [_, _]) rfl (.tl .hd) a_27 s_27 rfl rfl) <| .p (.yes rfl rfl h14) rfl (.binE rfl rfl (binV_neq (by kernel_rfl) (eq_27 _ _ _ _))) rfl rfl rfl ?_
        refine .p .no rfl (.pickF rfl h14 rfl) rfl rfl rfl <| .nil <| sq_n <| .cond rfl (fun h22 => ?_) (fun h22 => ?_)
        · have kh22 := (nT h22)
          have hF := cT h22 hF
          refine .region rfl <| .m rfl rfl <| .m rfl rfl <| .m rfl rfl <| .ixk (j := k1_5) .no rfl rfl h3_0 rfl e_25 hy1 ?_
          rintro b23 o23 _ hq23 rfl
          refine .p .no rfl (.fa rfl f_29_0) <| .ld .no rfl (.ps 0 rfl hq23 rfl a_3 rfl) <| .bs .no rfl (qs := [(0, _)]) (c := [_]) rfl sl_66 el_3 (by decide) rfl fun b24 => ?_
          obtain ⟨hl25, hF⟩ := ckS hF
          have hl25 := of_decide_eq_true hl25
          refine .x .no rfl (.appA (m := 1) (new := [_]) rfl rfl rfl (.tl .hd) sl_66 el_3 (.of rfl .sl sl_66 .hd (Nat.le_of_ble_eq_true rfl) rfl) (by decide) rfl (AccR.room (R := IntR) (ys := [y1.id]) ha1_4 (Ls.cons (c := [_]) rfl rfl .nil) hl25) rfl) fun v25 => .as (.tl .hd) fun av25 => ?_
          have ha25 := AccR.app (R := IntR) (g := gz21) (ys := [y1.id]) ha1_4 (Ls.cons (c := [_]) rfl rfl .nil) hl25 av25
          have lha25 := ha25.le
          refine .z rfl rfl <| .nil <| bq_n <| sq_n <| .region rfl <| .m rfl rfl <| .p .no rfl (.inc1 rfl rfl (by omega)) <| .z rfl rfl <| .nil <| loopQ_n (L_r04_Rests_1.mk _ _ (d1_1 ++ [y1.id]) (k1_5 + 1)) ⟨rfl, rfl, rfl, rfl, rfl, rfl, trivial⟩ (.cons _ (List.Sublist.refl _)) (((hle11.trans hle13).trans hle19).trans hle21) ?_ ?_
          · exact ⟨ha25, (atN_lt hy1), hF⟩
          · simp only; omega
        · have kh22 := (nF h22)
          have hF := cF h22 hF
          refine .skip <| bq_n <| sq_n <| .region rfl <| .m rfl rfl <| .p .no rfl (.inc1 rfl rfl (by omega)) <| .z rfl rfl <| .nil <| loopQ_n (L_r04_Rests_1.mk _ _ d1_1 (k1_5 + 1)) ⟨rfl, rfl, rfl, rfl, rfl, rfl, trivial⟩ (List.Sublist.refl _) (((hle11.trans hle13).trans hle19).trans hle21) ?_ ?_
          · exact ⟨ha1_4, (atN_lt hy1), hF⟩
          · simp only; omega
    · have kh9 := dF h9
      rw [dn (by omega), F_r04_Rests_l1] at hF
      obtain rfl := sI hF
      have hF := hG1
      refine .exit <| sq_e <| lq_e <| bq_x rfl <| sq_n <| .seq <| .region rfl <| .m rfl rfl <| .z rfl rfl <| .z rfl rfl <| .nil <| sq_n <| .see (seeFreeze IntR.mono .hd (by decide) ha1_4) ?_
      rintro gz26 ⟨hle26, hz26⟩
      replace hcq0 := hcq0.mono VersionR.mono hle26
      replace h3_0 := h3_0.mono RoomR.mono hle26
      replace hq4 := hq4.mono hle26
      replace hp4 := hp4.mono PutR.mono hle26
      replace hl4 := fun k hk => (hl4 k hk).mono PieceR.mono hle26
      replace ha1_4 := ha1_4.mono IntR.mono hle26
      refine .ret ?_
      obtain rfl := sI hF
      refine retQ_r (hle1.trans hle26) (.tmp rfl (.tmp rfl .nil)) rfl ?_
      exact ⟨_, rfl, hz26⟩
structure L_r04_Days_1 where
  v1_2 : V
  cs1_3 : List V
  d1_1 : List Int
  k1_5 : Nat
def F_r04_Days_l1 (p0 : Code) (p1 : Int) (p2 : (List Room)) : List Version → List Int → Nat → Option ((List Int))
  | [], d1_1, k1_5 => some (d1_1)
  | y1 :: ys1, d1_1, k1_5 => ((F_r04_judge y1 p1 p2).bind fun q11 => ((atI p0.vs ((k1_5 : Int) - 1)).bind fun y12 => ((F_r04_judge y12 p1 p2).bind fun q13 => (cond (!((decide (q11.1 = q13.1)) && ((decide (q11.2 = q13.2)) && true))) ((ck (decide (d1_1.length + 1 ≤ 1000000)) (F_r04_Days_l1 p0 p1 p2 ys1 (d1_1 ++ [y1.fr]) (k1_5 + 1)))) (F_r04_Days_l1 p0 p1 p2 ys1 d1_1 (k1_5 + 1))))))
def F_r04_Days (p0 : Code) (p1 : Int) (p2 : (List Room)) : Option ((List Int) × Int) := (cond (!(decide ((Code.err p0) = 0))) (some ([], (Code.err p0))) ((cond (!(within p1 0 1)) (some ([], 1)) ((cond (!(decide ((roomsE p2) = 0))) (some ([], 40)) ((ck (decide (1 ≤ p0.vs.length)) (((F_r04_Days_l1 p0 p1 p2 (List.drop 1 p0.vs) [] 1).bind fun o1_0_1 => some (o1_0_1, 0))))))))))
set_option maxHeartbeats 1000000 in
theorem F_r04_Days_ok (p0 : Code) (p1 : Int) (p2 : (List Room)) (v2_0 : V) (cs0 : List V) (g : G) (h0 : CodeR g cs0 p0) (h2_0 : RS RoomR 6 g v2_0 p2) (r : (List Int) × Int) (hF : F_r04_Days p0 p1 p2 = some r) : Fw Tryz.prog natS (.f 43 [] []) [.agg cs0, .i .i64 p1, v2_0] g [] fun g' ml' q => ml' = [] ∧ ∃ (w0_0 : V), q = (.tup [w0_0, .i .i64 r.2]) ∧ RS IntR 1 g' w0_0 r.1 := by
  refine Fw.drop ?_
  unfold F_r04_Days at hF
  obtain ⟨vq0, rfl, hcq0⟩ := h0
  have lh0_1 := hcq0.1
  have lh2_0 := h2_0.1
  refine Fw.enter (N := 57) (al := [(2, _), (1, _), (0, _)]) Tryz.func43 (by kernel_rfl) (by kernel_rfl) rfl rfl rfl rfl ?_
  intro B
  refine .seq <| .region rfl <| .box .no rfl rfl rfl rfl fun b1 => .z rfl rfl <| .z rfl rfl <| .nil <| sq_n <| .seq <| .region rfl <| .ld .no rfl (.a (vs := [_, _]) rfl .hd a_24 s_24 rfl rfl) <| .callV .no rfl rfl rfl (rCheck_ok _ _ _ ⟨_, rfl, hcq0⟩) <| .z rfl rfl <| .nil <| sq_n <| .seq <| .seq <| .region rfl <| .m rfl rfl <| .b rfl rfl rfl rfl <| .nil <| sq_n <| .cond rfl (fun h3 => ?_) (fun h3 => ?_)
  · have kh3 := dF (nT h3)
    have hF := cT h3 hF
    refine .seq <| .region rfl <| .m rfl rfl <| .z rfl rfl <| .z rfl rfl <| .nil <| sq_n <| .ret <| sq_r ?_
    obtain rfl := sI hF
    refine retQ_r (Le.refl _) (.tmp rfl (.tmp rfl .nil)) rfl ?_
    exact ⟨_, rfl, RS.nil⟩
  · have kh3 := dT (nF h3)
    have hF := cF h3 hF
    refine .skip <| sq_n <| .seq <| .seq <| .region rfl <| .m rfl rfl <| .callV .no rfl rfl rfl (in_ok _ _ _ _) <| .p .no rfl (.not rfl) <| .nil <| sq_n <| .cond rfl (fun h5 => ?_) (fun h5 => ?_)
    · have kh5 := (nT h5)
      have hF := cT h5 hF
      refine .seq <| .region rfl <| .z rfl rfl <| .z rfl rfl <| .nil <| sq_n <| .ret <| sq_r ?_
      obtain rfl := sI hF
      refine retQ_r (Le.refl _) (.tmp rfl (.tmp rfl .nil)) rfl ?_
      exact ⟨_, rfl, RS.nil⟩
    · have kh5 := (nF h5)
      have hF := cF h5 hF
      refine .skip <| sq_n <| .seq <| .seq <| .region rfl <| .m rfl rfl <| .callV .no rfl rfl rfl (rCheckRooms_ok _ _ _ h2_0) <| .b rfl rfl rfl rfl <| .nil <| sq_n <| .cond rfl (fun h7 => ?_) (fun h7 => ?_)
      · have kh7 := dF (nT h7)
        have hF := cT h7 hF
        refine .seq <| .region rfl <| .z rfl rfl <| .z rfl rfl <| .nil <| sq_n <| .ret <| sq_r ?_
        obtain rfl := sI hF
        refine retQ_r (Le.refl _) (.tmp rfl (.tmp rfl .nil)) rfl ?_
        exact ⟨_, rfl, RS.nil⟩
      · have kh7 := dT (nF h7)
        have hF := cF h7 hF
        refine .skip <| sq_n <| .seq <| .region rfl <| .z rfl rfl <| .nil <| sq_n <| .seq <| .seq <| .region rfl <| .z rfl rfl <| .nil <| sq_n <| .block <| .acc 1 3 ?_
        obtain ⟨hq1, hF⟩ := ckS hF
        have hq1 := of_decide_eq_true hq1
        obtain ⟨o1, hF, hG1⟩ := bS hF
        refine .loopx (α := L_r04_Days_1) [(1, _), (2, _), (3, _)] [_] (fun fx x => (9, x.v1_2) :: (10, .i .i64 (x.k1_5 : Int)) :: fx) (fun mx x => [.acc x.v1_2 1 x.cs1_3 3, rg mx 0]) (fun x g' => AccR IntR 1 g' x.v1_2 x.cs1_3 x.d1_1 ∧ x.k1_5 ≤ p0.vs.length ∧ F_r04_Days_l1 p0 p1 p2 (p0.vs.drop x.k1_5) x.d1_1 x.k1_5 = some o1) (fun x => p0.vs.length - x.k1_5) (L_r04_Days_1.mk _ _ [] 1) ⟨rfl, rfl, rfl, rfl, rfl, trivial⟩ (List.Sublist.refl _) ⟨AccR.nil, (by first | omega | (dsimp only; omega)), hF⟩ ?_
        intro x1 g1 hle1 hJ1
        obtain ⟨v1_2, cs1_3, d1_1, k1_5⟩ := x1
        try dsimp only at hJ1
        obtain ⟨ha1_4, hk1, hF⟩ := hJ1
        refine .al0 [(9, v1_2), (10, .i .i64 (k1_5 : Int)), (1, _), (2, _), (3, _)] ?_
        replace hcq0 := hcq0.mono VersionR.mono hle1
        replace h2_0 := h2_0.mono RoomR.mono hle1
        have lha1_4 := ha1_4.le
        refine .seq <| .seq <| .region rfl <| .m rfl rfl <| .p .no rfl (.fa rfl f_24_1) <| .ld .no rfl (.s rfl (.tl .hd) a_22 rfl) <| .p .no rfl (.lenR rfl rfl rfl e_22 hcq0) <| .b rfl rfl rfl rfl <| .nil <| sq_n <| .cond rfl (fun h9 => ?_) (fun h9 => ?_)
        · have kh9 := dT h9
          obtain ⟨y1, hy1⟩ := getK (l := p0.vs) (k := k1_5) kh9
          rw [dc hy1, F_r04_Days_l1] at hF
          refine .skip <| sq_n <| .seq <| .block <| .seq <| .draw (tb := [r0 0 0, r0 1 0, r0 0 0, r0 7 0, r0 15 0, r0 0 0, r0 0 0, r0 127 0, r0 0 0, r0 256 0, r0 0 0, r0 1024 0, r0 3840 0, r0 7936 0, r0 0 0, r0 0 0, r1 65535 1, r1 131071 2]) rfl (by kernel_rfl) (by kernel_rfl) ?_
          refine .p .no rfl (.fa rfl f_24_1) rfl rfl rfl <| .y rfl rfl rfl (.s rfl (.tl .hd) a_22 rfl) <| .m rfl rfl <| .ixk (j := k1_5) .no rfl rfl hcq0 rfl e_22 hy1 ?_
          rintro b10 o10 _ hq10 ⟨p10, lv10, rfl, hp10, hl10⟩
          have lh10_1 := hp10.1
          have lh10_2 := (hl10 0 (by decide)).1
          have lh10_3 := (hl10 1 (by decide)).1
          have lh10_4 := (hl10 2 (by decide)).1
          have lh10_5 := (hl10 3 (by decide)).1
          have lh10_6 := (hl10 4 (by decide)).1
          have lh10_7 := (hl10 5 (by decide)).1
          have lh10_8 := (hl10 6 (by decide)).1
          have lh10_9 := (hl10 7 (by decide)).1
          have lh10_10 := (hl10 8 (by decide)).1
          have lh10_11 := (hl10 9 (by decide)).1
          refine .y rfl rfl rfl (.pa 0 (vs := [_, _, _, _, _, _, _, _, _, _, _, _]) rfl hq10 rfl a_97 s_97 rfl rfl) <| .m rfl rfl <| .m rfl rfl ?_
          obtain ⟨q11, hq11, hF⟩ := bS hF
          refine .callV .no rfl rfl rfl rfl rfl (F_r04_judge_ok y1 p1 p2 _ _ _ ⟨_, _, rfl, hp10, hl10⟩ h2_0 _ hq11) <| .p .no rfl (.fa rfl f_24_1) rfl rfl rfl <| .ld (k := 1) .no rfl rfl rfl trivial (.s rfl (.tl .hd) a_22 rfl) <| .m rfl rfl <| .p .no rfl (.sub rfl rfl (by omega)) rfl rfl rfl ?_
          obtain ⟨y12, hy12, hF⟩ := bS hF
          have hj12 := atI_lt hy12
          refine .ixl .no rfl rfl hcq0 rfl e_22 hy12 ?_
          rintro b12 o12 _ hq12 ⟨p12, lv12, rfl, hp12, hl12⟩
          have lh12_1 := hp12.1
          have lh12_2 := (hl12 0 (by decide)).1
          have lh12_3 := (hl12 1 (by decide)).1
          have lh12_4 := (hl12 2 (by decide)).1
          have lh12_5 := (hl12 3 (by decide)).1
          have lh12_6 := (hl12 4 (by decide)).1
          have lh12_7 := (hl12 5 (by decide)).1
          have lh12_8 := (hl12 6 (by decide)).1
          have lh12_9 := (hl12 7 (by decide)).1
          have lh12_10 := (hl12 8 (by decide)).1
          have lh12_11 := (hl12 9 (by decide)).1
          refine .ld (k := 1) .no rfl rfl rfl trivial (.pa 0 (vs := [_, _, _, _, _, _, _, _, _, _, _, _]) rfl hq12 rfl a_97 s_97 rfl rfl) <| .m rfl rfl <| .m rfl rfl ?_
          obtain ⟨q13, hq13, hF⟩ := bS hF
          refine .callV .no rfl rfl rfl rfl rfl (F_r04_judge_ok y12 p1 p2 _ _ _ ⟨_, _, rfl, hp12, hl12⟩ h2_0 _ hq13) <| .p .no rfl (.binE rfl rfl (binV_neq (by kernel_rfl) (eq_27 _ _ _ _))) rfl rfl rfl ?_
          refine .nil <| sq_n <| .cond rfl (fun h14 => ?_) (fun h14 => ?_)
          · have kh14 := (nT h14)
            have hF := cT h14 hF
            refine .region rfl <| .m rfl rfl <| .p .no rfl (.fa rfl f_24_1) <| .ld .no rfl (.s rfl (.tl .hd) a_22 rfl) <| .m rfl rfl <| .ixk (j := k1_5) .no rfl rfl hcq0 rfl e_22 hy1 ?_
            rintro b15 o15 _ hq15 ⟨p15, lv15, rfl, hp15, hl15⟩
            have lh15_1 := hp15.1
            have lh15_2 := (hl15 0 (by decide)).1
            have lh15_3 := (hl15 1 (by decide)).1
            have lh15_4 := (hl15 2 (by decide)).1
            have lh15_5 := (hl15 3 (by decide)).1
            have lh15_6 := (hl15 4 (by decide)).1
            have lh15_7 := (hl15 5 (by decide)).1
            have lh15_8 := (hl15 6 (by decide)).1
            have lh15_9 := (hl15 7 (by decide)).1
            have lh15_10 := (hl15 8 (by decide)).1
            have lh15_11 := (hl15 9 (by decide)).1
            refine .p .no rfl (.fa rfl f_97_0) <| .ld .no rfl (.ps 0 rfl hq15 rfl a_3 rfl) <| .bs .no rfl (qs := [(0, _)]) (c := [_]) rfl sl_66 el_3 (by decide) rfl fun b16 => ?_
            obtain ⟨hl17, hF⟩ := ckS hF
            have hl17 := of_decide_eq_true hl17
            refine .x .no rfl (.appA (m := 1) (new := [_]) rfl rfl rfl (.tl .hd) sl_66 el_3 (.of rfl .sl sl_66 .hd (Nat.le_of_ble_eq_true rfl) rfl) (by decide) rfl (AccR.room (R := IntR) (ys := [y1.fr]) ha1_4 (Ls.cons (c := [_]) rfl rfl .nil) hl17) rfl) fun v17 => .as (.tl .hd) fun av17 => ?_
            have ha17 := AccR.app (R := IntR) (g := g1) (ys := [y1.fr]) ha1_4 (Ls.cons (c := [_]) rfl rfl .nil) hl17 av17
            have lha17 := ha17.le
            refine .z rfl rfl <| .nil <| bq_n <| sq_n <| .region rfl <| .m rfl rfl <| .p .no rfl (.inc1 rfl rfl (by omega)) <| .z rfl rfl <| .nil <| loopQ_n (L_r04_Days_1.mk _ _ (d1_1 ++ [y1.fr]) (k1_5 + 1)) ⟨rfl, rfl, rfl, rfl, rfl, trivial⟩ (.cons _ (List.Sublist.refl _)) (Le.refl _) ?_ ?_
            · exact ⟨ha17, (atN_lt hy1), hF⟩
            · simp only; omega
          · have kh14 := (nF h14)
            have hF := cF h14 hF
            refine .skip <| bq_n <| sq_n <| .region rfl <| .m rfl rfl <| .p .no rfl (.inc1 rfl rfl (by omega)) <| .z rfl rfl <| .nil <| loopQ_n (L_r04_Days_1.mk _ _ d1_1 (k1_5 + 1)) ⟨rfl, rfl, rfl, rfl, rfl, trivial⟩ (List.Sublist.refl _) (Le.refl _) ?_ ?_
            · exact ⟨ha1_4, (atN_lt hy1), hF⟩
            · simp only; omega
        · have kh9 := dF h9
          rw [dn (by omega), F_r04_Days_l1] at hF
          obtain rfl := sI hF
          have hF := hG1
          refine .exit <| sq_e <| lq_e <| bq_x rfl <| sq_n <| .seq <| .region rfl <| .m rfl rfl <| .z rfl rfl <| .z rfl rfl <| .nil <| sq_n <| .see (seeFreeze IntR.mono .hd (by decide) ha1_4) ?_
          rintro gz18 ⟨hle18, hz18⟩
          replace hcq0 := hcq0.mono VersionR.mono hle18
          replace h2_0 := h2_0.mono RoomR.mono hle18
          replace ha1_4 := ha1_4.mono IntR.mono hle18
          refine .ret ?_
          obtain rfl := sI hF
          refine retQ_r (hle1.trans hle18) (.tmp rfl (.tmp rfl .nil)) rfl ?_
          exact ⟨_, rfl, hz18⟩
structure L_code_Rests_1 where
  v1_2 : V
  cs1_3 : List V
  d1_1 : List Int
  k1_5 : Nat
def F_code_Rests_l1 (p0 : Code) (p1 : Int) (p2 : Int) (p3 : (List Room)) (q2 : (Int × Int) × Int) : List Room → List Int → Nat → Option ((List Int))
  | [], d1_1, k1_5 => some (d1_1)
  | y1 :: ys1, d1_1, k1_5 => ((F_slices_Clone_api_Room_api_Room p3).bind fun q10 => ((atI q10 (k1_5 : Int)).bind fun y11 => ((F_code_Judge p0 p1 p2 (List.set q10 k1_5 (Room.mk y11.id y11.kind y11.op y11.cr y1.lo y1.lo))).bind fun q13 => (cond (!((decide (q13.1.1 = q2.1.1)) && ((decide (q13.1.2 = q2.1.2)) && true))) ((ck (decide (d1_1.length + 1 ≤ 1000000)) (F_code_Rests_l1 p0 p1 p2 p3 q2 ys1 (d1_1 ++ [y1.id]) (k1_5 + 1)))) (((F_slices_Clone_api_Room_api_Room p3).bind fun q19 => ((atI q19 (k1_5 : Int)).bind fun y20 => ((F_code_Judge p0 p1 p2 (List.set q19 k1_5 (Room.mk y20.id y20.kind y20.op y20.cr y1.hi y1.hi))).bind fun q22 => (cond (!((decide (q22.1.1 = q2.1.1)) && ((decide (q22.1.2 = q2.1.2)) && true))) ((ck (decide (d1_1.length + 1 ≤ 1000000)) (F_code_Rests_l1 p0 p1 p2 p3 q2 ys1 (d1_1 ++ [y1.id]) (k1_5 + 1)))) (F_code_Rests_l1 p0 p1 p2 p3 q2 ys1 d1_1 (k1_5 + 1)))))))))))
def F_code_Rests (p0 : Code) (p1 : Int) (p2 : Int) (p3 : (List Room)) : Option ((List Int) × Int) := ((F_code_Judge p0 p1 p2 p3).bind fun q2 => (cond (!(decide (q2.2 = 0))) (some ([], q2.2)) (((F_code_Rests_l1 p0 p1 p2 p3 q2 p3 [] 0).bind fun o1_0_1 => some (o1_0_1, 0)))))
set_option maxHeartbeats 1000000 in
theorem F_code_Rests_ok (p0 : Code) (p1 : Int) (p2 : Int) (p3 : (List Room)) (v3_0 : V) (cs0 : List V) (g : G) (h0 : CodeR g cs0 p0) (h3_0 : RS RoomR 6 g v3_0 p3) (r : (List Int) × Int) (hF : F_code_Rests p0 p1 p2 p3 = some r) : Fw Tryz.prog natS (.f 40 [] []) [.agg cs0, .i .i64 p1, .i .i64 p2, v3_0] g [] fun g' ml' q => ml' = [] ∧ ∃ (w0_0 : V), q = (.tup [w0_0, .i .i64 r.2]) ∧ RS IntR 1 g' w0_0 r.1 := by
  refine Fw.drop ?_
  unfold F_code_Rests at hF
  obtain ⟨vq0, rfl, hcq0⟩ := h0
  have lh0_1 := hcq0.1
  have lh3_0 := h3_0.1
  refine Fw.enter (N := 78) (al := [(3, _), (2, _), (1, _), (0, _)]) Tryz.func40 (by kernel_rfl) (by kernel_rfl) rfl rfl rfl rfl ?_
  intro B
  refine .seq <| .region rfl <| .box .no rfl rfl rfl rfl fun b1 => .z rfl rfl <| .z rfl rfl <| .nil <| sq_n <| .seq <| .region rfl <| .ld .no rfl (.a (vs := [_, _]) rfl .hd a_24 s_24 rfl rfl) <| .m rfl rfl <| .m rfl rfl <| .m rfl rfl ?_
  obtain ⟨q2, hq2, hF⟩ := bS hF
  refine .callV .no rfl rfl rfl (F_code_Judge_ok p0 p1 p2 p3 _ _ _ ⟨_, rfl, hcq0⟩ h3_0 _ hq2) <| .m rfl rfl <| .p .no rfl (.ext rfl rfl) <| .p .no rfl (.ext rfl rfl) <| .alloc .no rfl z_27 fun b3 => .st (cs' := [_, _]) .no rfl rfl rfl rfl s_27 rfl rfl .hd rfl rfl <| .z rfl rfl <| .nil <| sq_n <| .seq <| .seq <| .region rfl <| .m rfl rfl <| .b rfl rfl rfl rfl <| .nil <| sq_n <| .cond rfl (fun h4 => ?_) (fun h4 => ?_)
  · have kh4 := dF (nT h4)
    have hF := cT h4 hF
    refine .seq <| .region rfl <| .m rfl rfl <| .z rfl rfl <| .z rfl rfl <| .nil <| sq_n <| .ret <| sq_r ?_
    obtain rfl := sI hF
    refine retQ_r (Le.refl _) (.tmp rfl (.tmp rfl .nil)) rfl ?_
    exact ⟨_, rfl, RS.nil⟩
  · have kh4 := dT (nF h4)
    have hF := cF h4 hF
    refine .skip <| sq_n <| .seq <| .region rfl <| .z rfl rfl <| .nil <| sq_n <| .seq <| .seq <| .region rfl <| .m rfl rfl <| .p .no rfl (.lenR rfl rfl rfl e_25 h3_0) <| .m rfl rfl <| .nil <| sq_n <| .block <| .acc 1 3 ?_
    obtain ⟨o1, hF, hG1⟩ := bS hF
    refine .loopx (α := L_code_Rests_1) [(1, _), (2, _), (3, _), (4, _), (10, _), (31, _), (32, _)] [_, _] (fun fx x => (12, x.v1_2) :: (33, .i .i64 (x.k1_5 : Int)) :: fx) (fun mx x => [.acc x.v1_2 1 x.cs1_3 3, rg mx 0, rg mx 1]) (fun x g' => AccR IntR 1 g' x.v1_2 x.cs1_3 x.d1_1 ∧ x.k1_5 ≤ p3.length ∧ F_code_Rests_l1 p0 p1 p2 p3 q2 (p3.drop x.k1_5) x.d1_1 x.k1_5 = some o1) (fun x => p3.length - x.k1_5) (L_code_Rests_1.mk _ _ [] 0) ⟨rfl, rfl, rfl, rfl, rfl, rfl, rfl, rfl, rfl, trivial⟩ (List.Sublist.refl _) ⟨AccR.nil, (by first | omega | (dsimp only; omega)), hF⟩ ?_
    intro x1 g1 hle1 hJ1
    obtain ⟨v1_2, cs1_3, d1_1, k1_5⟩ := x1
    try dsimp only at hJ1
    obtain ⟨ha1_4, hk1, hF⟩ := hJ1
    refine .al0 [(12, v1_2), (33, .i .i64 (k1_5 : Int)), (1, _), (2, _), (3, _), (4, _), (10, _), (31, _), (32, _)] ?_
    replace hcq0 := hcq0.mono VersionR.mono hle1
    replace h3_0 := h3_0.mono RoomR.mono hle1
    have lha1_4 := ha1_4.le
    refine .seq <| .region rfl <| .b rfl rfl rfl rfl <| .nil <| sq_n <| .seq <| .cond rfl (fun h6 => ?_) (fun h6 => ?_)
    · have kh6 := dT h6
      obtain ⟨y1, hy1⟩ := getK (l := p3) (k := k1_5) kh6
      rw [dc hy1, F_code_Rests_l1] at hF
      refine .skip <| sq_n <| .seq <| .block <| .seq <| .region rfl <| .m rfl rfl <| .ixk (j := k1_5) .no rfl rfl h3_0 rfl e_25 hy1 ?_
      rintro b7 o7 _ hq7 rfl
      refine .ld .no rfl (.pa 0 (vs := [_, _, _, _, _, _]) rfl hq7 rfl a_29 s_29 rfl rfl) <| .alloc .no rfl z_29 fun b8 => .z rfl rfl <| .st (cs' := [_, _, _, _, _, _]) .no rfl rfl rfl rfl s_29 rfl rfl .hd rfl rfl <| .nil <| sq_n <| .seq <| .region rfl <| .p .no rfl (.fa rfl f_29_4) <| .p .no rfl (.fa rfl f_27_0) <| .ld .no rfl (.s rfl .hd a_3 rfl) <| .p .no rfl (.fa rfl f_29_4) <| .p .no rfl (.fa rfl f_27_1) <| .ld .no rfl (.s rfl .hd a_3 rfl) <| .bs .no rfl (qs := [(0, _), (1, _)]) (c := [_, _]) rfl sl_66 el_3 (by decide) rfl fun b9 => .p .no rfl (.len rfl rfl rfl (lenV_sl e_66 .sl)) <| .m rfl rfl <| .nil <| sq_n <| .block <| .unroll <| .seq <| .region rfl <| .b rfl rfl rfl rfl <| .nil <| sq_n <| .seq <| .condT rfl (by decide) <| .skip <| sq_n <| .seq <| .block <| .seq <| .region rfl ?_
      refine .p .no rfl (.ixn (j := 0) rfl .sl rfl e_66 (by decide)) <| .ld .no rfl (.s rfl .hd a_3 rfl) <| .z rfl rfl <| .nil <| sq_n <| .seq <| .region rfl <| .m rfl rfl ?_
      obtain ⟨q10, hq10, hF⟩ := bS hF
      refine .call .no rfl rfl rfl (F_slices_Clone_api_Room_api_Room_ok p3 _ _ h3_0 _ hq10) ?_
      rintro g10 ml10 r10 hle10 ⟨cs10_0, w10_0, rfl, rfl, ha10_0⟩
      replace hcq0 := hcq0.mono VersionR.mono hle10
      replace h3_0 := h3_0.mono RoomR.mono hle10
      replace ha1_4 := ha1_4.mono IntR.mono hle10
      replace hq7 := hq7.mono hle10
      have lha10_0 := ha10_0.le
      refine .z rfl rfl <| .nil <| sq_n <| .seq <| .region rfl <| .m rfl rfl <| .m rfl rfl <| .m rfl rfl <| .m rfl rfl <| .p .no rfl (.build (qs := [(0, _), (1, _)]) (cs := [_, _]) rfl b_27 rfl) ?_
      obtain ⟨y11, hy11, hF⟩ := bS hF
      have hj11 := atI_lt hy11
      have hy11 := atI_get hy11
      refine .ixA .no rfl rfl ha10_0 rfl e_25 (by decide) hj11.1 hy11 ?_
      intro b11 n11 cs11 hv11 hc11 hd11 hr11
      obtain rfl := hr11
      refine .p .no rfl (.fa rfl f_29_4) <| .see0 (seeBlk0 .hd hv11) <| .st (cs' := _) .no rfl rfl rfl rfl s_27 rfl rfl .hd (AccR.ble (k := 4) ha10_0 hy11 (by decide)) rfl ?_
      have ha12 := AccR.set (k := 4) (us := [(.i .i64 y1.lo), (.i .i64 y1.lo)]) (y' := (Room.mk y11.id y11.kind y11.op y11.cr y1.lo y1.lo)) ha10_0 hy11 hd11 (Nat.le_of_ble_eq_true rfl) rfl
      have hd12 := AccR.part (k := 4) (us := [(.i .i64 y1.lo), (.i .i64 y1.lo)]) ha10_0 hy11 hd11 (Nat.le_of_ble_eq_true rfl)
      refine .see0 (seeAcc0 .hd hv11 ha12.sh) ?_
      have lha12 := ha12.le
      refine .nil <| sq_n <| .seq <| .region rfl <| .ld .no rfl (.a (vs := [_, _]) rfl (.tl (.tl (.tl (.tl (.tl .hd))))) a_24 s_24 rfl rfl) <| .m rfl rfl <| .m rfl rfl <| .m rfl rfl <| .see (seeFreeze RoomR.mono .hd (by decide) ha12) ?_
      rintro gz14 ⟨hle14, hz14⟩
      replace hcq0 := hcq0.mono VersionR.mono hle14
      replace h3_0 := h3_0.mono RoomR.mono hle14
      replace ha1_4 := ha1_4.mono IntR.mono hle14
      replace hq7 := hq7.mono hle14
      replace ha10_0 := ha10_0.mono RoomR.mono hle14
      replace ha12 := ha12.mono RoomR.mono hle14
      obtain ⟨q13, hq13, hF⟩ := bS hF
      refine .callV .no rfl rfl rfl (F_code_Judge_ok p0 p1 p2 (List.set q10 k1_5 (Room.mk y11.id y11.kind y11.op y11.cr y1.lo y1.lo)) _ _ _ ⟨_, rfl, hcq0⟩ hz14 _ hq13) <| .m rfl rfl <| .p .no rfl (.ext rfl rfl) <| .p .no rfl (.ext rfl rfl) <| .alloc .no rfl z_27 fun b15 => .st (cs' := [_, _]) .no rfl rfl rfl rfl s_27 rfl rfl .hd rfl rfl <| .z rfl rfl <| .nil <| sq_n <| .seq <| .region rfl <| .ld .no rfl (.a (vs := [_, _]) rfl .hd a_27 s_27 rfl rfl) <| .ld .no rfl (.a (vs := [_, _]) rfl (.tl (.tl (.tl (.tl .hd)))) a_27 s_27 rfl rfl) <| .p .no rfl (.binE rfl rfl (binV_neq (by kernel_rfl) (eq_27 _ _ _ _))) ?_
      refine .nil <| sq_n <| .cond rfl (fun h16 => ?_) (fun h16 => ?_)
      · have kh16 := (nT h16)
        have hF := cT h16 hF
        refine .seq <| .region rfl <| .m rfl rfl <| .p .no rfl (.fa rfl f_29_0) <| .ld .no rfl (.s rfl (.tl (.tl .hd)) a_3 rfl) <| .bs .no rfl (qs := [(0, _)]) (c := [_]) rfl sl_66 el_3 (by decide) rfl fun b17 => ?_
        obtain ⟨hl18, hF⟩ := ckS hF
        have hl18 := of_decide_eq_true hl18
        refine .x .no rfl (.appA (m := 1) (new := [_]) rfl rfl rfl (.tl (.tl (.tl (.tl .hd)))) sl_66 el_3 (.of rfl .sl sl_66 .hd (Nat.le_of_ble_eq_true rfl) rfl) (by decide) rfl (AccR.room (R := IntR) (ys := [y1.id]) ha1_4 (Ls.cons (c := [_]) rfl rfl .nil) hl18) rfl) fun v18 => .as (.tl (.tl (.tl (.tl .hd)))) fun av18 => ?_
        have ha18 := AccR.app (R := IntR) (g := gz14) (ys := [y1.id]) ha1_4 (Ls.cons (c := [_]) rfl rfl .nil) hl18 av18
        have lha18 := ha18.le
        refine .z rfl rfl <| .nil <| sq_n <| .exit <| bq_e rfl <| sq_e <| sq_e <| bq_x rfl <| bq_n <| sq_n <| .region rfl <| .p .no rfl (.inc1 rfl rfl (by omega)) <| .m rfl rfl <| .nil <| loopQ_n (L_code_Rests_1.mk _ _ (d1_1 ++ [y1.id]) (k1_5 + 1)) ⟨rfl, rfl, rfl, rfl, rfl, rfl, rfl, rfl, rfl, trivial⟩ (.cons _ (.cons _ (.cons _ (.cons _ (List.Sublist.refl _))))) (hle10.trans hle14) ?_ ?_
        · exact ⟨ha18, (atN_lt hy1), hF⟩
        · simp only; omega
      · have kh16 := (nF h16)
        have hF := cF h16 hF
        refine .skip <| bq_n <| sq_n <| .region rfl <| .p .no rfl (.addL (c := 1) rfl rfl rfl (by decide)) <| .m rfl rfl <| .nil <| sq_n <| .unroll <| .seq <| .region rfl <| .b rfl rfl rfl rfl <| .nil <| sq_n <| .seq <| .condT rfl (by decide) <| .skip <| sq_n <| .seq <| .block <| .seq <| .region rfl <| .p .no rfl (.ixn (j := 1) rfl .sl rfl e_66 (by decide)) <| .ld .no rfl (.s rfl (.tl .hd) a_3 rfl) <| .z rfl rfl <| .nil <| sq_n <| .seq <| .region rfl <| .m rfl rfl ?_
        obtain ⟨q19, hq19, hF⟩ := bS hF
        refine .call .no rfl rfl rfl (F_slices_Clone_api_Room_api_Room_ok p3 _ _ h3_0 _ hq19) ?_
        rintro g19 ml19 r19 hle19 ⟨cs19_0, w19_0, rfl, rfl, ha19_0⟩
        replace hcq0 := hcq0.mono VersionR.mono hle19
        replace h3_0 := h3_0.mono RoomR.mono hle19
        replace ha1_4 := ha1_4.mono IntR.mono hle19
        replace hq7 := hq7.mono hle19
        replace ha10_0 := ha10_0.mono RoomR.mono hle19
        replace ha12 := ha12.mono RoomR.mono hle19
        replace hz14 := hz14.mono RoomR.mono hle19
        have lha19_0 := ha19_0.le
        refine .z rfl rfl <| .nil <| sq_n <| .seq <| .region rfl <| .m rfl rfl <| .m rfl rfl <| .m rfl rfl <| .m rfl rfl <| .p .no rfl (.build (qs := [(0, _), (1, _)]) (cs := [_, _]) rfl b_27 rfl) ?_
        obtain ⟨y20, hy20, hF⟩ := bS hF
        have hj20 := atI_lt hy20
        have hy20 := atI_get hy20
        refine .ixA .no rfl rfl ha19_0 rfl e_25 (by decide) hj20.1 hy20 ?_
        intro b20 n20 cs20 hv20 hc20 hd20 hr20
        obtain rfl := hr20
        refine .p .no rfl (.fa rfl f_29_4) <| .see0 (seeBlk0 .hd hv20) <| .st (cs' := _) .no rfl rfl rfl rfl s_27 rfl rfl .hd (AccR.ble (k := 4) ha19_0 hy20 (by decide)) rfl ?_
        have ha21 := AccR.set (k := 4) (us := [(.i .i64 y1.hi), (.i .i64 y1.hi)]) (y' := (Room.mk y20.id y20.kind y20.op y20.cr y1.hi y1.hi)) ha19_0 hy20 hd20 (Nat.le_of_ble_eq_true rfl) rfl
        have hd21 := AccR.part (k := 4) (us := [(.i .i64 y1.hi), (.i .i64 y1.hi)]) ha19_0 hy20 hd20 (Nat.le_of_ble_eq_true rfl)
        refine .see0 (seeAcc0 .hd hv20 ha21.sh) ?_
        have lha21 := ha21.le
        refine .nil <| sq_n <| .seq <| .region rfl <| .ld .no rfl (.a (vs := [_, _]) rfl (.tl (.tl (.tl (.tl (.tl (.tl .hd)))))) a_24 s_24 rfl rfl) <| .m rfl rfl <| .m rfl rfl <| .m rfl rfl <| .see (seeFreeze RoomR.mono .hd (by decide) ha21) ?_
        rintro gz23 ⟨hle23, hz23⟩
        replace hcq0 := hcq0.mono VersionR.mono hle23
        replace h3_0 := h3_0.mono RoomR.mono hle23
        replace ha1_4 := ha1_4.mono IntR.mono hle23
        replace hq7 := hq7.mono hle23
        replace ha10_0 := ha10_0.mono RoomR.mono hle23
        replace ha12 := ha12.mono RoomR.mono hle23
        replace hz14 := hz14.mono RoomR.mono hle23
        replace ha19_0 := ha19_0.mono RoomR.mono hle23
        replace ha21 := ha21.mono RoomR.mono hle23
        obtain ⟨q22, hq22, hF⟩ := bS hF
        refine .callV .no rfl rfl rfl (F_code_Judge_ok p0 p1 p2 (List.set q19 k1_5 (Room.mk y20.id y20.kind y20.op y20.cr y1.hi y1.hi)) _ _ _ ⟨_, rfl, hcq0⟩ hz23 _ hq22) <| .m rfl rfl <| .p .no rfl (.ext rfl rfl) <| .p .no rfl (.ext rfl rfl) <| .alloc .no rfl z_27 fun b24 => .st (cs' := [_, _]) .no rfl rfl rfl rfl s_27 rfl rfl .hd rfl rfl <| .z rfl rfl <| .nil <| sq_n <| .seq <| .region rfl <| .ld .no rfl (.a (vs := [_, _]) rfl .hd a_27 s_27 rfl rfl) <| .ld .no rfl (.a (vs := [_, _]) rfl (.tl (.tl (.tl (.tl (.tl .hd))))) a_27 s_27 rfl rfl) <| .p .no rfl (.binE rfl rfl (binV_neq (by kernel_rfl) (eq_27 _ _ _ _))) ?_
        refine .nil <| sq_n <| .cond rfl (fun h25 => ?_) (fun h25 => ?_)
        · have kh25 := (nT h25)
          have hF := cT h25 hF
          refine .seq <| .region rfl <| .m rfl rfl <| .p .no rfl (.fa rfl f_29_0) <| .ld .no rfl (.s rfl (.tl (.tl (.tl .hd))) a_3 rfl) <| .bs .no rfl (qs := [(0, _)]) (c := [_]) rfl sl_66 el_3 (by decide) rfl fun b26 => ?_
          obtain ⟨hl27, hF⟩ := ckS hF
          have hl27 := of_decide_eq_true hl27
          refine .x .no rfl (.appA (m := 1) (new := [_]) rfl rfl rfl (.tl (.tl (.tl (.tl (.tl .hd))))) sl_66 el_3 (.of rfl .sl sl_66 .hd (Nat.le_of_ble_eq_true rfl) rfl) (by decide) rfl (AccR.room (R := IntR) (ys := [y1.id]) ha1_4 (Ls.cons (c := [_]) rfl rfl .nil) hl27) rfl) fun v27 => .as (.tl (.tl (.tl (.tl (.tl .hd))))) fun av27 => ?_
          have ha27 := AccR.app (R := IntR) (g := gz23) (ys := [y1.id]) ha1_4 (Ls.cons (c := [_]) rfl rfl .nil) hl27 av27
          have lha27 := ha27.le
          refine .z rfl rfl <| .nil <| sq_n <| .exit <| bq_e rfl <| sq_e <| sq_e <| bq_x rfl <| bq_n <| sq_n <| .region rfl <| .p .no rfl (.inc1 rfl rfl (by omega)) <| .m rfl rfl <| .nil <| loopQ_n (L_code_Rests_1.mk _ _ (d1_1 ++ [y1.id]) (k1_5 + 1)) ⟨rfl, rfl, rfl, rfl, rfl, rfl, rfl, rfl, rfl, trivial⟩ (.cons _ (.cons _ (.cons _ (.cons _ (.cons _ (List.Sublist.refl _)))))) (((hle10.trans hle14).trans hle19).trans hle23) ?_ ?_
          · exact ⟨ha27, (atN_lt hy1), hF⟩
          · simp only; omega
        · have kh25 := (nF h25)
          have hF := cF h25 hF
          refine .skip <| bq_n <| sq_n <| .region rfl <| .p .no rfl (.addL (c := 2) rfl rfl rfl (by decide)) <| .m rfl rfl <| .nil <| sq_n <| .unroll <| .seq <| .region rfl <| .b rfl rfl rfl rfl <| .nil <| sq_n <| .seq <| .condF rfl (by decide) <| .exit <| sq_e <| sq_e <| bq_x rfl <| bq_n <| sq_n <| .region rfl <| .p .no rfl (.inc1 rfl rfl (by omega)) <| .m rfl rfl <| .nil <| loopQ_n (L_code_Rests_1.mk _ _ d1_1 (k1_5 + 1)) ⟨rfl, rfl, rfl, rfl, rfl, rfl, rfl, rfl, rfl, trivial⟩ (.cons _ (.cons _ (.cons _ (.cons _ (List.Sublist.refl _))))) (((hle10.trans hle14).trans hle19).trans hle23) ?_ ?_
          · exact ⟨ha1_4, (atN_lt hy1), hF⟩
          · simp only; omega
    · have kh6 := dF h6
      rw [dn (by omega), F_code_Rests_l1] at hF
      obtain rfl := sI hF
      have hF := hG1
      refine .exit <| sq_e <| lq_e <| bq_x rfl <| sq_n <| .seq <| .region rfl <| .m rfl rfl <| .z rfl rfl <| .z rfl rfl <| .nil <| sq_n <| .see (seeFreeze IntR.mono .hd (by decide) ha1_4) ?_
      rintro gz28 ⟨hle28, hz28⟩
      replace hcq0 := hcq0.mono VersionR.mono hle28
      replace h3_0 := h3_0.mono RoomR.mono hle28
      replace ha1_4 := ha1_4.mono IntR.mono hle28
      refine .ret ?_
      obtain rfl := sI hF
      refine retQ_r (hle1.trans hle28) (.tmp rfl (.tmp rfl .nil)) rfl ?_
      exact ⟨_, rfl, hz28⟩
structure L_code_Days_1 where
  v1_2 : V
  cs1_3 : List V
  d1_1 : List Int
  k1_5 : Nat
def F_code_Days_l1 (p0 : Code) (p1 : Int) (p2 : (List Room)) : List Version → List Int → Nat → Option ((List Int))
  | [], d1_1, k1_5 => some (d1_1)
  | y1 :: ys1, d1_1, k1_5 => ((F_code_Judge p0 (wr (y1.fr - 1)) p1 p2).bind fun q11 => ((F_code_Judge p0 y1.fr p1 p2).bind fun q13 => (cond (!((decide (q13.1.1 = q11.1.1)) && ((decide (q13.1.2 = q11.1.2)) && true))) ((ck (decide (d1_1.length + 1 ≤ 1000000)) (F_code_Days_l1 p0 p1 p2 ys1 (d1_1 ++ [y1.fr]) (k1_5 + 1)))) (F_code_Days_l1 p0 p1 p2 ys1 d1_1 (k1_5 + 1)))))
def F_code_Days (p0 : Code) (p1 : Int) (p2 : (List Room)) : Option ((List Int) × Int) := ((F_code_of p0).bind fun q2 => ((F_code_question_by q2 p1).bind fun q3 => ((F_code_question_with q3 p2).bind fun q4 => (cond (!(decide (q4.e_ = 0))) (some ([], q4.e_)) ((ck (decide ((0 : Int) ≤ 1) && (decide ((1 : Int) ≤ (p0.vs.length : Int)) && decide (((p0.vs.length : Int) : Int) ≤ p0.vs.length))) (((F_code_Days_l1 p0 p1 p2 (cutL p0.vs 1 (p0.vs.length : Int)) [] 0).bind fun o1_0_1 => some (o1_0_1, 0)))))))))
set_option maxHeartbeats 1000000 in
theorem F_code_Days_ok (p0 : Code) (p1 : Int) (p2 : (List Room)) (v2_0 : V) (cs0 : List V) (g : G) (h0 : CodeR g cs0 p0) (h2_0 : RS RoomR 6 g v2_0 p2) (r : (List Int) × Int) (hF : F_code_Days p0 p1 p2 = some r) : Fw Tryz.prog natS (.f 42 [] []) [.agg cs0, .i .i64 p1, v2_0] g [] fun g' ml' q => ml' = [] ∧ ∃ (w0_0 : V), q = (.tup [w0_0, .i .i64 r.2]) ∧ RS IntR 1 g' w0_0 r.1 := by
  refine Fw.drop ?_
  unfold F_code_Days at hF
  obtain ⟨vq0, rfl, hcq0⟩ := h0
  have lh0_1 := hcq0.1
  have lh2_0 := h2_0.1
  refine Fw.enter (N := 68) (al := [(2, _), (1, _), (0, _)]) Tryz.func42 (by kernel_rfl) (by kernel_rfl) rfl rfl rfl rfl ?_
  intro B
  refine .seq <| .region rfl <| .box .no rfl rfl rfl rfl fun b1 => .z rfl rfl <| .z rfl rfl <| .nil <| sq_n <| .seq <| .region rfl <| .ld .no rfl (.a (vs := [_, _]) rfl .hd a_24 s_24 rfl rfl) ?_
  obtain ⟨q2, hq2, hF⟩ := bS hF
  refine .call .no rfl rfl rfl (F_code_of_ok p0 _ _ ⟨_, rfl, hcq0⟩ _ hq2) ?_
  rintro g2 ml2 r2 hle2 ⟨b2_0, cs2_0, rfl, rfl, ⟨v12_0, v32_0, v42_0, v52_0, v62_0, v72_0, v82_0, v92_0, v102_0, v112_0, v122_0, v132_0, rfl, h12_0, h32_0, h42_0, h52_0, h62_0, h72_0, h82_0, h92_0, h102_0, h112_0, h122_0, h132_0⟩⟩
  replace hcq0 := hcq0.mono VersionR.mono hle2
  replace h2_0 := h2_0.mono RoomR.mono hle2
  have lh2_0_1 := h12_0.1
  have lh2_0_3 := h32_0.1
  have lh2_0_4 := h42_0.1
  have lh2_0_5 := h52_0.1
  have lh2_0_6 := h62_0.1
  have lh2_0_7 := h72_0.1
  have lh2_0_8 := h82_0.1
  have lh2_0_9 := h92_0.1
  have lh2_0_10 := h102_0.1
  have lh2_0_11 := h112_0.1
  have lh2_0_12 := h122_0.1
  have lh2_0_13 := h132_0.1
  refine .m rfl rfl ?_
  obtain ⟨q3, hq3, hF⟩ := bS hF
  refine .callT .no rfl rfl rfl .hd (F_code_question_by_ok q2 p1 _ _ _ ⟨_, _, _, _, _, _, _, _, _, _, _, _, rfl, h12_0, h32_0, h42_0, h52_0, h62_0, h72_0, h82_0, h92_0, h102_0, h112_0, h122_0, h132_0⟩ _ hq3) ?_
  rintro g3 ml3 r3 hle3 ⟨cs3_0, rfl, rfl, ⟨v13_0, v33_0, v43_0, v53_0, v63_0, v73_0, v83_0, v93_0, v103_0, v113_0, v123_0, v133_0, rfl, h13_0, h33_0, h43_0, h53_0, h63_0, h73_0, h83_0, h93_0, h103_0, h113_0, h123_0, h133_0⟩⟩
  replace hcq0 := hcq0.mono VersionR.mono hle3
  replace h2_0 := h2_0.mono RoomR.mono hle3
  replace h12_0 := h12_0.mono VersionR.mono hle3
  replace h32_0 := h32_0.mono PutR.mono hle3
  replace h42_0 := h42_0.mono PieceR.mono hle3
  replace h52_0 := h52_0.mono PieceR.mono hle3
  replace h62_0 := h62_0.mono PieceR.mono hle3
  replace h72_0 := h72_0.mono PieceR.mono hle3
  replace h82_0 := h82_0.mono PieceR.mono hle3
  replace h92_0 := h92_0.mono PieceR.mono hle3
  replace h102_0 := h102_0.mono PieceR.mono hle3
  replace h112_0 := h112_0.mono PieceR.mono hle3
  replace h122_0 := h122_0.mono PieceR.mono hle3
  replace h132_0 := h132_0.mono PieceR.mono hle3
  have lh3_0_1 := h13_0.1
  have lh3_0_3 := h33_0.1
  have lh3_0_4 := h43_0.1
  have lh3_0_5 := h53_0.1
  have lh3_0_6 := h63_0.1
  have lh3_0_7 := h73_0.1
  have lh3_0_8 := h83_0.1
  have lh3_0_9 := h93_0.1
  have lh3_0_10 := h103_0.1
  have lh3_0_11 := h113_0.1
  have lh3_0_12 := h123_0.1
  have lh3_0_13 := h133_0.1
  refine .m rfl rfl ?_
  obtain ⟨q4, hq4, hF⟩ := bS hF
  refine .callT .no rfl rfl rfl .hd (F_code_question_with_ok q3 p2 _ _ _ _ ⟨_, _, _, _, _, _, _, _, _, _, _, _, rfl, h13_0, h33_0, h43_0, h53_0, h63_0, h73_0, h83_0, h93_0, h103_0, h113_0, h123_0, h133_0⟩ h2_0 _ hq4) ?_
  rintro g4 ml4 r4 hle4 ⟨cs4_0, rfl, rfl, ⟨v14_0, v34_0, v44_0, v54_0, v64_0, v74_0, v84_0, v94_0, v104_0, v114_0, v124_0, v134_0, rfl, h14_0, h34_0, h44_0, h54_0, h64_0, h74_0, h84_0, h94_0, h104_0, h114_0, h124_0, h134_0⟩⟩
  replace hcq0 := hcq0.mono VersionR.mono hle4
  replace h2_0 := h2_0.mono RoomR.mono hle4
  replace h12_0 := h12_0.mono VersionR.mono hle4
  replace h32_0 := h32_0.mono PutR.mono hle4
  replace h42_0 := h42_0.mono PieceR.mono hle4
  replace h52_0 := h52_0.mono PieceR.mono hle4
  replace h62_0 := h62_0.mono PieceR.mono hle4
  replace h72_0 := h72_0.mono PieceR.mono hle4
  replace h82_0 := h82_0.mono PieceR.mono hle4
  replace h92_0 := h92_0.mono PieceR.mono hle4
  replace h102_0 := h102_0.mono PieceR.mono hle4
  replace h112_0 := h112_0.mono PieceR.mono hle4
  replace h122_0 := h122_0.mono PieceR.mono hle4
  replace h132_0 := h132_0.mono PieceR.mono hle4
  replace h13_0 := h13_0.mono VersionR.mono hle4
  replace h33_0 := h33_0.mono PutR.mono hle4
  replace h43_0 := h43_0.mono PieceR.mono hle4
  replace h53_0 := h53_0.mono PieceR.mono hle4
  replace h63_0 := h63_0.mono PieceR.mono hle4
  replace h73_0 := h73_0.mono PieceR.mono hle4
  replace h83_0 := h83_0.mono PieceR.mono hle4
  replace h93_0 := h93_0.mono PieceR.mono hle4
  replace h103_0 := h103_0.mono PieceR.mono hle4
  replace h113_0 := h113_0.mono PieceR.mono hle4
  replace h123_0 := h123_0.mono PieceR.mono hle4
  replace h133_0 := h133_0.mono PieceR.mono hle4
  have lh4_0_1 := h14_0.1
  have lh4_0_3 := h34_0.1
  have lh4_0_4 := h44_0.1
  have lh4_0_5 := h54_0.1
  have lh4_0_6 := h64_0.1
  have lh4_0_7 := h74_0.1
  have lh4_0_8 := h84_0.1
  have lh4_0_9 := h94_0.1
  have lh4_0_10 := h104_0.1
  have lh4_0_11 := h114_0.1
  have lh4_0_12 := h124_0.1
  have lh4_0_13 := h134_0.1
  refine .z rfl rfl <| .nil <| sq_n <| .seq <| .seq <| .region rfl <| .m rfl rfl <| .p .no rfl (.nil rfl) <| .p .no rfl (.fa rfl f_132_3) <| .ld .no rfl (.s rfl .hd a_30 rfl) <| .b rfl rfl rfl rfl <| .nil <| sq_n <| .cond rfl (fun h5 => ?_) (fun h5 => ?_)
  · have kh5 := dF (nT h5)
    have hF := cT h5 hF
    refine .seq <| .draw (tb := [r1 0 0, r1 1 0, r1 3 0, r1 7 0, r0 0 0, r1 31 0]) rfl (by kernel_rfl) (by kernel_rfl) ?_
    refine .m rfl rfl <| .p .no rfl (.nil rfl) rfl rfl rfl <| .p .no rfl (.fa rfl f_132_3) rfl rfl rfl <| .y rfl rfl rfl (.s rfl .hd a_30 rfl) <| .z rfl rfl <| .z rfl rfl <| .nil <| sq_n <| .ret <| sq_r ?_
    obtain rfl := sI hF
    refine retQ_r ((hle2.trans hle3).trans hle4) (.tmp rfl (.tmp rfl .nil)) rfl ?_
    exact ⟨_, rfl, RS.nil⟩
  · have kh5 := dT (nF h5)
    have hF := cF h5 hF
    refine .skip <| sq_n <| .seq <| .region rfl <| .z rfl rfl <| .nil <| sq_n <| .seq <| .seq <| .region rfl <| .p .no rfl (.fa rfl f_24_1) <| .ld .no rfl (.s rfl (.tl .hd) a_22 rfl) ?_
    obtain ⟨hb6, hF⟩ := ckS hF
    have hb6 := cut3 hb6
    refine .sliceI .no rfl rfl hcq0 sl_22 s_97 ⟨_, rfl⟩ rfl hb6 fun v6 hs6 => ?_
    have lhs6 := hs6.1
    refine .p .no rfl (.lenR rfl rfl rfl e_22 hs6) <| .m rfl rfl <| .nil <| sq_n <| .block <| .acc 1 3 ?_
    obtain ⟨o1, hF, hG1⟩ := bS hF
    refine .loopx (α := L_code_Days_1) [(1, _), (2, _), (3, _), (33, _), (34, _)] [_, _] (fun fx x => (9, x.v1_2) :: (35, .i .i64 (x.k1_5 : Int)) :: fx) (fun mx x => [.acc x.v1_2 1 x.cs1_3 3, rg mx 0, rg mx 1]) (fun x g' => AccR IntR 1 g' x.v1_2 x.cs1_3 x.d1_1 ∧ x.k1_5 ≤ (cutL p0.vs 1 (p0.vs.length : Int)).length ∧ F_code_Days_l1 p0 p1 p2 ((cutL p0.vs 1 (p0.vs.length : Int)).drop x.k1_5) x.d1_1 x.k1_5 = some o1) (fun x => (cutL p0.vs 1 (p0.vs.length : Int)).length - x.k1_5) (L_code_Days_1.mk _ _ [] 0) ⟨rfl, rfl, rfl, rfl, rfl, rfl, rfl, trivial⟩ (List.Sublist.refl _) ⟨AccR.nil, (by first | omega | (dsimp only; omega)), hF⟩ ?_
    intro x1 g1 hle1 hJ1
    obtain ⟨v1_2, cs1_3, d1_1, k1_5⟩ := x1
    try dsimp only at hJ1
    obtain ⟨ha1_4, hk1, hF⟩ := hJ1
    refine .al0 [(9, v1_2), (35, .i .i64 (k1_5 : Int)), (1, _), (2, _), (3, _), (33, _), (34, _)] ?_
    replace hcq0 := hcq0.mono VersionR.mono hle1
    replace h2_0 := h2_0.mono RoomR.mono hle1
    replace h12_0 := h12_0.mono VersionR.mono hle1
    replace h32_0 := h32_0.mono PutR.mono hle1
    replace h42_0 := h42_0.mono PieceR.mono hle1
    replace h52_0 := h52_0.mono PieceR.mono hle1
    replace h62_0 := h62_0.mono PieceR.mono hle1
    replace h72_0 := h72_0.mono PieceR.mono hle1
    replace h82_0 := h82_0.mono PieceR.mono hle1
    replace h92_0 := h92_0.mono PieceR.mono hle1
    replace h102_0 := h102_0.mono PieceR.mono hle1
    replace h112_0 := h112_0.mono PieceR.mono hle1
    replace h122_0 := h122_0.mono PieceR.mono hle1
    replace h132_0 := h132_0.mono PieceR.mono hle1
    replace h13_0 := h13_0.mono VersionR.mono hle1
    replace h33_0 := h33_0.mono PutR.mono hle1
    replace h43_0 := h43_0.mono PieceR.mono hle1
    replace h53_0 := h53_0.mono PieceR.mono hle1
    replace h63_0 := h63_0.mono PieceR.mono hle1
    replace h73_0 := h73_0.mono PieceR.mono hle1
    replace h83_0 := h83_0.mono PieceR.mono hle1
    replace h93_0 := h93_0.mono PieceR.mono hle1
    replace h103_0 := h103_0.mono PieceR.mono hle1
    replace h113_0 := h113_0.mono PieceR.mono hle1
    replace h123_0 := h123_0.mono PieceR.mono hle1
    replace h133_0 := h133_0.mono PieceR.mono hle1
    replace h14_0 := h14_0.mono VersionR.mono hle1
    replace h34_0 := h34_0.mono PutR.mono hle1
    replace h44_0 := h44_0.mono PieceR.mono hle1
    replace h54_0 := h54_0.mono PieceR.mono hle1
    replace h64_0 := h64_0.mono PieceR.mono hle1
    replace h74_0 := h74_0.mono PieceR.mono hle1
    replace h84_0 := h84_0.mono PieceR.mono hle1
    replace h94_0 := h94_0.mono PieceR.mono hle1
    replace h104_0 := h104_0.mono PieceR.mono hle1
    replace h114_0 := h114_0.mono PieceR.mono hle1
    replace h124_0 := h124_0.mono PieceR.mono hle1
    replace h134_0 := h134_0.mono PieceR.mono hle1
    replace hs6 := hs6.mono VersionR.mono hle1
    have lha1_4 := ha1_4.le
    refine .seq <| .region rfl <| .b rfl rfl rfl rfl <| .nil <| sq_n <| .seq <| .cond rfl (fun h8 => ?_) (fun h8 => ?_)
    · have kh8 := dT h8
      obtain ⟨y1, hy1⟩ := getK (l := (cutL p0.vs 1 (p0.vs.length : Int))) (k := k1_5) kh8
      rw [dc hy1, F_code_Days_l1] at hF
      refine .skip <| sq_n <| .seq <| .block <| .seq <| .region rfl <| .ixk (j := k1_5) .no rfl rfl hs6 rfl e_22 hy1 ?_
      rintro b9 o9 _ hq9 ⟨p9, lv9, rfl, hp9, hl9⟩
      have lh9_1 := hp9.1
      have lh9_2 := (hl9 0 (by decide)).1
      have lh9_3 := (hl9 1 (by decide)).1
      have lh9_4 := (hl9 2 (by decide)).1
      have lh9_5 := (hl9 3 (by decide)).1
      have lh9_6 := (hl9 4 (by decide)).1
      have lh9_7 := (hl9 5 (by decide)).1
      have lh9_8 := (hl9 6 (by decide)).1
      have lh9_9 := (hl9 7 (by decide)).1
      have lh9_10 := (hl9 8 (by decide)).1
      have lh9_11 := (hl9 9 (by decide)).1
      refine .ld .no rfl (.pa 0 (vs := [_, _, _, _, _, _, _, _, _, _, _, _]) rfl hq9 rfl a_97 s_97 rfl rfl) <| .alloc .no rfl z_97 fun b10 => .st (cs' := [_, _, _, _, _, _, _, _, _, _, _, _]) .no rfl rfl rfl rfl s_97 rfl rfl .hd rfl (allOne_cons rfl (allOne_cons hp9.one (allOne_cons (hl9 0 (by decide)).one (allOne_cons (hl9 1 (by decide)).one (allOne_cons (hl9 2 (by decide)).one (allOne_cons (hl9 3 (by decide)).one (allOne_cons (hl9 4 (by decide)).one (allOne_cons (hl9 5 (by decide)).one (allOne_cons (hl9 6 (by decide)).one (allOne_cons (hl9 7 (by decide)).one (allOne_cons (hl9 8 (by decide)).one (allOne_cons (hl9 9 (by decide)).one rfl)))))))))))) <| .nil <| sq_n <| .seq <| .region rfl <| .ld .no rfl (.a (vs := [_, _]) rfl (.tl (.tl (.tl .hd))) a_24 s_24 rfl rfl) <| .p .no rfl (.fa rfl f_97_0) <| .ld .no rfl (.s rfl .hd a_3 rfl) <| .b rfl rfl rfl rfl <| .m rfl rfl <| .m rfl rfl ?_
      obtain ⟨q11, hq11, hF⟩ := bS hF
      refine .callV .no rfl rfl rfl (F_code_Judge_ok p0 (wr (y1.fr - 1)) p1 p2 _ _ _ ⟨_, rfl, hcq0⟩ h2_0 _ hq11) <| .m rfl rfl <| .p .no rfl (.ext rfl rfl) <| .p .no rfl (.ext rfl rfl) <| .alloc .no rfl z_27 fun b12 => .st (cs' := [_, _]) .no rfl rfl rfl rfl s_27 rfl rfl .hd rfl rfl <| .z rfl rfl <| .nil <| sq_n <| .seq <| .region rfl <| .ld .no rfl (.a (vs := [_, _]) rfl (.tl (.tl (.tl (.tl .hd)))) a_24 s_24 rfl rfl) <| .p .no rfl (.fa rfl f_97_0) <| .ld .no rfl (.s rfl (.tl .hd) a_3 rfl) <| .m rfl rfl <| .m rfl rfl ?_
      obtain ⟨q13, hq13, hF⟩ := bS hF
      refine .callV .no rfl rfl rfl (F_code_Judge_ok p0 y1.fr p1 p2 _ _ _ ⟨_, rfl, hcq0⟩ h2_0 _ hq13) <| .m rfl rfl <| .p .no rfl (.ext rfl rfl) <| .p .no rfl (.ext rfl rfl) <| .alloc .no rfl z_27 fun b14 => .st (cs' := [_, _]) .no rfl rfl rfl rfl s_27 rfl rfl .hd rfl rfl <| .z rfl rfl <| .nil <| sq_n <| .seq <| .region rfl <| .ld .no rfl (.a (vs := [_, _]) rfl .hd a_27 s_27 rfl rfl) <| .ld .no rfl (.a (vs := [_, _]) rfl (.tl .hd) a_27 s_27 rfl rfl) <| .p .no rfl (.binE rfl rfl (binV_neq (by kernel_rfl) (eq_27 _ _ _ _))) ?_
      refine .nil <| sq_n <| .cond rfl (fun h15 => ?_) (fun h15 => ?_)
      · have kh15 := (nT h15)
        have hF := cT h15 hF
        refine .region rfl <| .m rfl rfl <| .p .no rfl (.fa rfl f_97_0) <| .ld .no rfl (.s rfl (.tl (.tl .hd)) a_3 rfl) <| .bs .no rfl (qs := [(0, _)]) (c := [_]) rfl sl_66 el_3 (by decide) rfl fun b16 => ?_
        obtain ⟨hl17, hF⟩ := ckS hF
        have hl17 := of_decide_eq_true hl17
        refine .x .no rfl (.appA (m := 1) (new := [_]) rfl rfl rfl (.tl (.tl (.tl (.tl .hd)))) sl_66 el_3 (.of rfl .sl sl_66 .hd (Nat.le_of_ble_eq_true rfl) rfl) (by decide) rfl (AccR.room (R := IntR) (ys := [y1.fr]) ha1_4 (Ls.cons (c := [_]) rfl rfl .nil) hl17) rfl) fun v17 => .as (.tl (.tl (.tl (.tl .hd)))) fun av17 => ?_
        have ha17 := AccR.app (R := IntR) (g := g1) (ys := [y1.fr]) ha1_4 (Ls.cons (c := [_]) rfl rfl .nil) hl17 av17
        have lha17 := ha17.le
        refine .z rfl rfl <| .nil <| bq_n <| sq_n <| .region rfl <| .p .no rfl (.inc1 rfl rfl (by omega)) <| .m rfl rfl <| .nil <| loopQ_n (L_code_Days_1.mk _ _ (d1_1 ++ [y1.fr]) (k1_5 + 1)) ⟨rfl, rfl, rfl, rfl, rfl, rfl, rfl, trivial⟩ (.cons _ (.cons _ (.cons _ (.cons _ (List.Sublist.refl _))))) (Le.refl _) ?_ ?_
        · exact ⟨ha17, (atN_lt hy1), hF⟩
        · simp only; omega
      · have kh15 := (nF h15)
        have hF := cF h15 hF
        refine .skip <| bq_n <| sq_n <| .region rfl <| .p .no rfl (.inc1 rfl rfl (by omega)) <| .m rfl rfl <| .nil <| loopQ_n (L_code_Days_1.mk _ _ d1_1 (k1_5 + 1)) ⟨rfl, rfl, rfl, rfl, rfl, rfl, rfl, trivial⟩ (.cons _ (.cons _ (.cons _ (List.Sublist.refl _)))) (Le.refl _) ?_ ?_
        · exact ⟨ha1_4, (atN_lt hy1), hF⟩
        · simp only; omega
    · have kh8 := dF h8
      rw [dn (by omega), F_code_Days_l1] at hF
      obtain rfl := sI hF
      have hF := hG1
      refine .exit <| sq_e <| lq_e <| bq_x rfl <| sq_n <| .seq <| .region rfl <| .m rfl rfl <| .z rfl rfl <| .z rfl rfl <| .nil <| sq_n <| .see (seeFreeze IntR.mono .hd (by decide) ha1_4) ?_
      rintro gz18 ⟨hle18, hz18⟩
      replace hcq0 := hcq0.mono VersionR.mono hle18
      replace h2_0 := h2_0.mono RoomR.mono hle18
      replace h12_0 := h12_0.mono VersionR.mono hle18
      replace h32_0 := h32_0.mono PutR.mono hle18
      replace h42_0 := h42_0.mono PieceR.mono hle18
      replace h52_0 := h52_0.mono PieceR.mono hle18
      replace h62_0 := h62_0.mono PieceR.mono hle18
      replace h72_0 := h72_0.mono PieceR.mono hle18
      replace h82_0 := h82_0.mono PieceR.mono hle18
      replace h92_0 := h92_0.mono PieceR.mono hle18
      replace h102_0 := h102_0.mono PieceR.mono hle18
      replace h112_0 := h112_0.mono PieceR.mono hle18
      replace h122_0 := h122_0.mono PieceR.mono hle18
      replace h132_0 := h132_0.mono PieceR.mono hle18
      replace h13_0 := h13_0.mono VersionR.mono hle18
      replace h33_0 := h33_0.mono PutR.mono hle18
      replace h43_0 := h43_0.mono PieceR.mono hle18
      replace h53_0 := h53_0.mono PieceR.mono hle18
      replace h63_0 := h63_0.mono PieceR.mono hle18
      replace h73_0 := h73_0.mono PieceR.mono hle18
      replace h83_0 := h83_0.mono PieceR.mono hle18
      replace h93_0 := h93_0.mono PieceR.mono hle18
      replace h103_0 := h103_0.mono PieceR.mono hle18
      replace h113_0 := h113_0.mono PieceR.mono hle18
      replace h123_0 := h123_0.mono PieceR.mono hle18
      replace h133_0 := h133_0.mono PieceR.mono hle18
      replace h14_0 := h14_0.mono VersionR.mono hle18
      replace h34_0 := h34_0.mono PutR.mono hle18
      replace h44_0 := h44_0.mono PieceR.mono hle18
      replace h54_0 := h54_0.mono PieceR.mono hle18
      replace h64_0 := h64_0.mono PieceR.mono hle18
      replace h74_0 := h74_0.mono PieceR.mono hle18
      replace h84_0 := h84_0.mono PieceR.mono hle18
      replace h94_0 := h94_0.mono PieceR.mono hle18
      replace h104_0 := h104_0.mono PieceR.mono hle18
      replace h114_0 := h114_0.mono PieceR.mono hle18
      replace h124_0 := h124_0.mono PieceR.mono hle18
      replace h134_0 := h134_0.mono PieceR.mono hle18
      replace hs6 := hs6.mono VersionR.mono hle18
      replace ha1_4 := ha1_4.mono IntR.mono hle18
      refine .ret ?_
      obtain rfl := sI hF
      refine retQ_r ((((hle2.trans hle3).trans hle4).trans hle1).trans hle18) (.tmp rfl (.tmp rfl .nil)) rfl ?_
      exact ⟨_, rfl, hz18⟩
structure L_r01_SameInts_1 where
  k1_1 : Nat
def F_r01_SameInts_l1 (p1 : (List Int)) : List Int → Nat → Option ((Bool) ⊕ (Unit))
  | [], k1_1 => some ((Sum.inr ()))
  | y1 :: ys1, k1_1 => ((p1[k1_1]?).bind fun y4 => (cond (!(decide (y1 = y4))) (some ((Sum.inl false))) (F_r01_SameInts_l1 p1 ys1 (k1_1 + 1))))
def F_r01_SameInts (p0 : (List Int)) (p1 : (List Int)) : Option (Bool) := (cond (!(decide ((p0.length : Int) = (p1.length : Int)))) (some false) (((F_r01_SameInts_l1 p1 p0 0).bind fun o => match o with | (Sum.inl q) => (some q) | (Sum.inr _) => (some true))))
set_option maxHeartbeats 1000000 in
theorem F_r01_SameInts_ok (p0 : (List Int)) (p1 : (List Int)) (v0_0 v1_0 : V) (g : G) (h0_0 : RS IntR 1 g v0_0 p0) (h1_0 : RS IntR 1 g v1_0 p1) (r : Bool) (hF : F_r01_SameInts p0 p1 = some r) : Fv Tryz.prog natS (.f 44 [] []) [v0_0, v1_0] g (.b r) := by
  refine Fw.fv ?_
  unfold F_r01_SameInts at hF
  have lh0_0 := h0_0.1
  have lh1_0 := h1_0.1
  refine Fw.enter (N := 26) (al := [(1, _), (0, _)]) Tryz.func44 (by kernel_rfl) (by kernel_rfl) rfl rfl rfl rfl ?_
  intro B
  refine .seq <| .region rfl <| .z rfl rfl <| .nil <| sq_n <| .seq <| .seq <| .region rfl <| .m rfl rfl <| .p .no rfl (.lenR rfl rfl rfl e_66 h0_0) <| .m rfl rfl <| .p .no rfl (.lenR rfl rfl rfl e_66 h1_0) <| .b rfl rfl rfl rfl <| .nil <| sq_n <| .cond rfl (fun h1 => ?_) (fun h1 => ?_)
  · have kh1 := dF (nT h1)
    have hF := cT h1 hF
    refine .seq <| .region rfl <| .z rfl rfl <| .nil <| sq_n <| .ret <| sq_r ?_
    obtain rfl := sI hF
    refine retQ_r (Le.refl _) (.tmp rfl .nil) rfl ?_
    rfl
  · have kh1 := dT (nF h1)
    have hF := cF h1 hF
    refine .skip <| sq_n <| .seq <| .seq <| .region rfl <| .z rfl rfl <| .nil <| sq_n <| .block ?_
    obtain ⟨o1, hF, hG1⟩ := bS hF
    refine .loopx (α := L_r01_SameInts_1) [(0, _), (1, _)] _ (fun fx x => (5, .i .i64 (x.k1_1 : Int)) :: fx) (fun mx _ => mx) (fun x g' => x.k1_1 ≤ p0.length ∧ F_r01_SameInts_l1 p1 (p0.drop x.k1_1) x.k1_1 = some o1) (fun x => p0.length - x.k1_1) (L_r01_SameInts_1.mk 0) ⟨rfl, rfl, rfl, trivial⟩ (List.Sublist.refl _) ⟨(by first | omega | (dsimp only; omega)), hF⟩ ?_
    intro x1 g1 hle1 hJ1
    obtain ⟨k1_1⟩ := x1
    try dsimp only at hJ1
    obtain ⟨hk1, hF⟩ := hJ1
    refine .al0 [(5, .i .i64 (k1_1 : Int)), (0, _), (1, _)] ?_
    replace h0_0 := h0_0.mono IntR.mono hle1
    replace h1_0 := h1_0.mono IntR.mono hle1
    refine .seq <| .seq <| .region rfl <| .m rfl rfl <| .m rfl rfl <| .p .no rfl (.lenR rfl rfl rfl e_66 h0_0) <| .b rfl rfl rfl rfl <| .nil <| sq_n <| .cond rfl (fun h2 => ?_) (fun h2 => ?_)
    · have kh2 := dT h2
      obtain ⟨y1, hy1⟩ := getK (l := p0) (k := k1_1) kh2
      rw [dc hy1, F_r01_SameInts_l1] at hF
      refine .skip <| sq_n <| .seq <| .block <| .seq <| .draw (tb := [r0 0 0, r0 0 0, r0 3 0, r0 7 0, r0 0 0, r0 0 0, r0 48 0, r0 112 0, r1 255 0]) rfl (by kernel_rfl) (by kernel_rfl) ?_
      refine .m rfl rfl <| .m rfl rfl <| .ixk (j := k1_1) .no rfl rfl h0_0 rfl e_66 hy1 ?_
      rintro b3 o3 _ hq3 rfl
      refine .y rfl rfl rfl (.ps 0 rfl hq3 rfl a_3 rfl) <| .m rfl rfl <| .m rfl rfl ?_
      obtain ⟨y4, hy4, hF⟩ := bS hF
      have hj4 := atN_lt hy4
      refine .ixk (j := k1_1) .no rfl rfl h1_0 rfl e_66 hy4 ?_
      rintro b4 o4 _ hq4 rfl
      refine .y rfl rfl rfl (.ps 0 rfl hq4 rfl a_3 rfl) <| .b rfl rfl rfl rfl <| .nil <| sq_n <| .cond rfl (fun h5 => ?_) (fun h5 => ?_)
      · have kh5 := dF (nT h5)
        have hF := cT h5 hF
        refine .seq <| .region rfl <| .z rfl rfl <| .nil <| sq_n <| .ret <| bq_r <| sq_r <| lq_r <| bq_r <| sq_r ?_
        obtain rfl := sI hF
        have hF := hG1
        obtain rfl := sI hF
        refine retQ_r hle1 (.tmp rfl .nil) rfl ?_
        rfl
      · have kh5 := dT (nF h5)
        have hF := cF h5 hF
        refine .skip <| bq_n <| sq_n <| .region rfl <| .m rfl rfl <| .p .no rfl (.inc1 rfl rfl (by omega)) <| .z rfl rfl <| .nil <| loopQ_n (L_r01_SameInts_1.mk (k1_1 + 1)) ⟨rfl, rfl, rfl, trivial⟩ (List.Sublist.refl _) (Le.refl _) ?_ ?_
        · exact ⟨(atN_lt hy1), hF⟩
        · simp only; omega
    · have kh2 := dF h2
      rw [dn (by omega), F_r01_SameInts_l1] at hF
      obtain rfl := sI hF
      have hF := hG1
      refine .exit <| sq_e <| lq_e <| bq_x rfl <| sq_n <| .seq <| .region rfl <| .z rfl rfl <| .nil <| sq_n <| .ret ?_
      obtain rfl := sI hF
      refine retQ_r hle1 (.tmp rfl .nil) rfl ?_
      rfl
def F_l04_CodeRests (p0 : Code) (p1 : T_Ask) : Option (Bool) := ((F_code_Rests p0 p1.Day p1.Formula p1.Rooms).bind fun q3 => ((F_r04_Rests p0 p1.Day p1.Formula p1.Rooms).bind fun q4 => ((F_code_Days p0 p1.Formula p1.Rooms).bind fun q5 => ((F_r04_Days p0 p1.Formula p1.Rooms).bind fun q6 => ((F_r01_SameInts q3.1 q4.1).bind fun q7 => (cond q7 ((cond (decide (q3.2 = q4.2)) (((F_r01_SameInts q5.1 q6.1).bind fun q10 => (cond q10 ((cond (decide (q5.2 = q6.2)) (some true) (some false))) (some false)))) (some false))) (some false)))))))
set_option maxHeartbeats 1000000 in
theorem F_l04_CodeRests_ok (p0 : Code) (p1 : T_Ask) (cs0 cs1 : List V) (g : G) (h0 : CodeR g cs0 p0) (h1 : R_Ask g cs1 p1) (r : Bool) (hF : F_l04_CodeRests p0 p1 = some r) : Fv Tryz.prog natS (.f 7 [] []) [.agg cs0, .agg cs1] g (.b r) := by
  refine Fw.fv ?_
  unfold F_l04_CodeRests at hF
  obtain ⟨vq0, rfl, hcq0⟩ := h0
  have lh0_1 := hcq0.1
  obtain ⟨v2q1, rfl, h2q1⟩ := h1
  have lh1_2 := h2q1.1
  refine Fw.enter (N := 74) (al := [(1, _), (0, _)]) Tryz.func7 (by kernel_rfl) (by kernel_rfl) rfl rfl rfl rfl ?_
  intro B
  refine .seq <| .region rfl <| .box .no rfl rfl rfl rfl fun b1 => .box .no rfl rfl rfl rfl fun b2 => .z rfl rfl <| .nil <| sq_n <| .seq <| .region rfl <| .ld .no rfl (.a (vs := [_, _]) rfl (.tl .hd) a_24 s_24 rfl rfl) <| .p .no rfl (.fa rfl f_37_0) <| .ld .no rfl (.s rfl .hd a_3 rfl) <| .p .no rfl (.fa rfl f_37_1) <| .ld .no rfl (.s rfl .hd a_3 rfl) <| .p .no rfl (.fa rfl f_37_2) <| .ld .no rfl (.s rfl .hd a_25 rfl) ?_
  obtain ⟨q3, hq3, hF⟩ := bS hF
  refine .call .no rfl rfl rfl (F_code_Rests_ok p0 p1.Day p1.Formula p1.Rooms _ _ _ ⟨_, rfl, hcq0⟩ h2q1 _ hq3) ?_
  rintro g3 ml3 r3 hle3 ⟨rfl, w3_0_0, rfl, hw3_0_0⟩
  replace hcq0 := hcq0.mono VersionR.mono hle3
  replace h2q1 := h2q1.mono RoomR.mono hle3
  have lhw3_0_0 := hw3_0_0.1
  refine .m rfl rfl <| .p .no rfl (.ext rfl rfl) <| .p .no rfl (.ext rfl rfl) <| .z rfl rfl <| .z rfl rfl <| .nil <| sq_n <| .seq <| .region rfl <| .ld .no rfl (.a (vs := [_, _]) rfl (.tl .hd) a_24 s_24 rfl rfl) <| .p .no rfl (.fa rfl f_37_0) <| .ld .no rfl (.s rfl .hd a_3 rfl) <| .p .no rfl (.fa rfl f_37_1) <| .ld .no rfl (.s rfl .hd a_3 rfl) <| .p .no rfl (.fa rfl f_37_2) <| .ld .no rfl (.s rfl .hd a_25 rfl) ?_
  obtain ⟨q4, hq4, hF⟩ := bS hF
  refine .call .no rfl rfl rfl (F_r04_Rests_ok p0 p1.Day p1.Formula p1.Rooms _ _ _ ⟨_, rfl, hcq0⟩ h2q1 _ hq4) ?_
  rintro g4 ml4 r4 hle4 ⟨rfl, w4_0_0, rfl, hw4_0_0⟩
  replace hcq0 := hcq0.mono VersionR.mono hle4
  replace h2q1 := h2q1.mono RoomR.mono hle4
  replace hw3_0_0 := hw3_0_0.mono IntR.mono hle4
  have lhw4_0_0 := hw4_0_0.1
  refine .m rfl rfl <| .p .no rfl (.ext rfl rfl) <| .p .no rfl (.ext rfl rfl) <| .z rfl rfl <| .z rfl rfl <| .nil <| sq_n <| .seq <| .region rfl <| .ld .no rfl (.a (vs := [_, _]) rfl (.tl .hd) a_24 s_24 rfl rfl) <| .p .no rfl (.fa rfl f_37_1) <| .ld .no rfl (.s rfl .hd a_3 rfl) <| .p .no rfl (.fa rfl f_37_2) <| .ld .no rfl (.s rfl .hd a_25 rfl) ?_
  obtain ⟨q5, hq5, hF⟩ := bS hF
  refine .call .no rfl rfl rfl (F_code_Days_ok p0 p1.Formula p1.Rooms _ _ _ ⟨_, rfl, hcq0⟩ h2q1 _ hq5) ?_
  rintro g5 ml5 r5 hle5 ⟨rfl, w5_0_0, rfl, hw5_0_0⟩
  replace hcq0 := hcq0.mono VersionR.mono hle5
  replace h2q1 := h2q1.mono RoomR.mono hle5
  replace hw3_0_0 := hw3_0_0.mono IntR.mono hle5
  replace hw4_0_0 := hw4_0_0.mono IntR.mono hle5
  have lhw5_0_0 := hw5_0_0.1
  refine .m rfl rfl <| .p .no rfl (.ext rfl rfl) <| .p .no rfl (.ext rfl rfl) <| .z rfl rfl <| .z rfl rfl <| .nil <| sq_n <| .seq <| .region rfl <| .ld .no rfl (.a (vs := [_, _]) rfl (.tl .hd) a_24 s_24 rfl rfl) <| .p .no rfl (.fa rfl f_37_1) <| .ld .no rfl (.s rfl .hd a_3 rfl) <| .p .no rfl (.fa rfl f_37_2) <| .ld .no rfl (.s rfl .hd a_25 rfl) ?_
  obtain ⟨q6, hq6, hF⟩ := bS hF
  refine .call .no rfl rfl rfl (F_r04_Days_ok p0 p1.Formula p1.Rooms _ _ _ ⟨_, rfl, hcq0⟩ h2q1 _ hq6) ?_
  rintro g6 ml6 r6 hle6 ⟨rfl, w6_0_0, rfl, hw6_0_0⟩
  replace hcq0 := hcq0.mono VersionR.mono hle6
  replace h2q1 := h2q1.mono RoomR.mono hle6
  replace hw3_0_0 := hw3_0_0.mono IntR.mono hle6
  replace hw4_0_0 := hw4_0_0.mono IntR.mono hle6
  replace hw5_0_0 := hw5_0_0.mono IntR.mono hle6
  have lhw6_0_0 := hw6_0_0.1
  refine .m rfl rfl <| .p .no rfl (.ext rfl rfl) <| .p .no rfl (.ext rfl rfl) <| .z rfl rfl <| .z rfl rfl <| .nil <| sq_n <| .seq <| .region rfl <| .m rfl rfl <| .m rfl rfl ?_
  obtain ⟨q7, hq7, hF⟩ := bS hF
  refine .callV .no rfl rfl rfl (F_r01_SameInts_ok q3.1 q4.1 _ _ _ hw3_0_0 hw4_0_0 _ hq7) <| .m rfl rfl <| .split (t := 56) rfl (fun h8 => ?_) (fun h8 => ?_)
  · have kh8 := h8
    have hF := cT h8 hF
    refine .p (.yes rfl rfl h8) rfl (.move rfl) <| .p (.yes rfl rfl h8) rfl (.move rfl) <| .p (.yes rfl rfl h8) rfl (.bin rfl rfl rfl) <| .p .no rfl (.pickT rfl h8 rfl) <| .m rfl rfl <| .split (t := 61) rfl (fun h9 => ?_) (fun h9 => ?_)
    · have kh9 := dT h9
      have hF := cT h9 hF
      refine .p (.yes rfl rfl h9) rfl (.move rfl) <| .p (.yes rfl rfl h9) rfl (.move rfl) ?_
      obtain ⟨q10, hq10, hF⟩ := bS hF
      refine .callV (.yes rfl rfl h9) rfl rfl rfl (F_r01_SameInts_ok q5.1 q6.1 _ _ _ hw5_0_0 hw6_0_0 _ hq10) <| .p .no rfl (.pickT rfl h9 rfl) <| .m rfl rfl <| .split (t := 66) rfl (fun h11 => ?_) (fun h11 => ?_)
      · have kh11 := h11
        have hF := cT h11 hF
        refine .p (.yes rfl rfl h11) rfl (.move rfl) <| .p (.yes rfl rfl h11) rfl (.move rfl) <| .p (.yes rfl rfl h11) rfl (.bin rfl rfl rfl) <| .p .no rfl (.pickT rfl h11 rfl) <| .m rfl rfl <| .split (t := 71) rfl (fun h12 => ?_) (fun h12 => ?_)
        · have kh12 := dT h12
          have hF := cT h12 hF
          refine .callV (.yes rfl rfl h12) rfl rfl rfl (sane_ok _) <| .p .no rfl (.pickT rfl h12 rfl) <| .z rfl rfl <| .nil <| sq_n <| .ret ?_
          obtain rfl := sI hF
          refine retQ_r (((hle3.trans hle4).trans hle5).trans hle6) (.tmp rfl .nil) rfl ?_
          rfl
        · have kh12 := dF h12
          have hF := cF h12 hF
          refine .skip (.yes rfl rfl h12) rfl <| .p .no rfl (.pickF rfl h12 rfl) <| .z rfl rfl <| .nil <| sq_n <| .ret ?_
          obtain rfl := sI hF
          refine retQ_r (((hle3.trans hle4).trans hle5).trans hle6) (.tmp rfl .nil) rfl ?_
          rfl
      · have kh11 := h11
        have hF := cF h11 hF
        refine .skip (.yes rfl rfl h11) rfl <| .skip (.yes rfl rfl h11) rfl <| .skip (.yes rfl rfl h11) rfl <| .p .no rfl (.pickF rfl h11 rfl) <| .m rfl rfl <| .skip (.yes rfl rfl rfl) rfl <| .p .no rfl (.pickF rfl rfl rfl) <| .z rfl rfl <| .nil <| sq_n <| .ret ?_
        obtain rfl := sI hF
        refine retQ_r (((hle3.trans hle4).trans hle5).trans hle6) (.tmp rfl .nil) rfl ?_
        rfl
    · have kh9 := dF h9
      have hF := cF h9 hF
      refine .skip (.yes rfl rfl h9) rfl <| .skip (.yes rfl rfl h9) rfl <| .skip (.yes rfl rfl h9) rfl <| .p .no rfl (.pickF rfl h9 rfl) <| .m rfl rfl <| .skip (.yes rfl rfl rfl) rfl <| .skip (.yes rfl rfl rfl) rfl <| .skip (.yes rfl rfl rfl) rfl <| .p .no rfl (.pickF rfl rfl rfl) <| .m rfl rfl <| .skip (.yes rfl rfl rfl) rfl <| .p .no rfl (.pickF rfl rfl rfl) <| .z rfl rfl <| .nil <| sq_n <| .ret ?_
      obtain rfl := sI hF
      refine retQ_r (((hle3.trans hle4).trans hle5).trans hle6) (.tmp rfl .nil) rfl ?_
      rfl
  · have kh8 := h8
    have hF := cF h8 hF
    refine .skip (.yes rfl rfl h8) rfl <| .skip (.yes rfl rfl h8) rfl <| .skip (.yes rfl rfl h8) rfl <| .p .no rfl (.pickF rfl h8 rfl) <| .m rfl rfl <| .skip (.yes rfl rfl rfl) rfl <| .skip (.yes rfl rfl rfl) rfl <| .skip (.yes rfl rfl rfl) rfl <| .p .no rfl (.pickF rfl rfl rfl) <| .m rfl rfl <| .skip (.yes rfl rfl rfl) rfl <| .skip (.yes rfl rfl rfl) rfl <| .skip (.yes rfl rfl rfl) rfl <| .p .no rfl (.pickF rfl rfl rfl) <| .m rfl rfl <| .skip (.yes rfl rfl rfl) rfl <| .p .no rfl (.pickF rfl rfl rfl) <| .z rfl rfl <| .nil <| sq_n <| .ret ?_
    obtain rfl := sI hF
    refine retQ_r (((hle3.trans hle4).trans hle5).trans hle6) (.tmp rfl .nil) rfl ?_
    rfl
end Go.Proofs.YtjflgemfeofciaaGreatDoor
