import Derived.Test.YtjflgemfeofciaaGreatDoorQa4
/- Layer 4: versions (InForce, Amend) of both sides; the walk of CodeVersions. -/
namespace Go.Proofs.YtjflgemfeofciaaGreatDoor
open Go Go.Ev
set_option linter.unusedVariables false
set_option linter.unusedSimpArgs false
set_option maxRecDepth 10000
def F_slices_Clone_api_Version_api_Version (l : List Version) : Option (List Version) := ck (decide (l.length ≤ 1000000)) (some l)
theorem F_slices_Clone_api_Version_api_Version_ok (p0 : (List Version)) (v0_0 : V) (g : G) (h0_0 : RS VersionR 12 g v0_0 p0) (r : (List Version)) (hF : F_slices_Clone_api_Version_api_Version p0 = some r) : Fw Tryz.prog natS (.f 103 [] []) [v0_0] g [] fun g' ml' q => ∃ (ds0 : List V) (w0_0 : V), ml' = [.acc w0_0 12 ds0 97] ∧ q = (w0_0) ∧ AccR VersionR 12 g' w0_0 ds0 r := by
  obtain ⟨hl, hF⟩ := ckS hF
  obtain rfl := sI hF
  have hl := of_decide_eq_true hl
  refine Fw.enter (N := 8) (al := [(0, _)]) Tryz.func103 (by kernel_rfl) (by kernel_rfl) rfl rfl rfl rfl ?_
  intro B
  obtain ⟨h0, hs⟩ := id h0_0
  have hno : (v0_0 = .sn ∧ p0 = []) ∨ binV Tryz.prog .eql 22 (.tmp 3) (.const (.slice none 0 0)) v0_0 .sn = some (.b false) := by
    rcases hs with ⟨h, e⟩ | ⟨h | h, e⟩ | ⟨b, o, h, -⟩
    · exact .inl ⟨h, e⟩
    · subst h; exact .inr (by kernel_rfl)
    · subst h; exact .inr (by kernel_rfl)
    · cases h <;> exact .inr (by kernel_rfl)
  rcases hno with ⟨rfl, rfl⟩ | hno
  · refine .seq <| .region rfl <| .z rfl rfl <| .nil <| sq_n <| .seq <| .seq <| .region rfl <| .m rfl rfl <| .p .no rfl (.binE rfl rfl (v := .b true) (by kernel_rfl)) <| .nil <| sq_n <| .condT rfl rfl <| .seq <| .region rfl <| .z rfl rfl <| .nil <| sq_n ?_
    refine .see0 (seeEm0 (v := .sn) 12 97 (.inl rfl)) ?_
    refine .ret <| sq_r ?_
    refine retQ_r (Le.refl _) (.tmp rfl .nil) rfl ?_
    exact ⟨_, _, rfl, rfl, AccR.nil⟩
  · refine .seq <| .region rfl <| .z rfl rfl <| .nil <| sq_n <| .seq <| .seq <| .region rfl <| .m rfl rfl <| .p .no rfl (.binE rfl rfl hno) <| .nil <| sq_n <| .condF rfl rfl <| .skip <| sq_n ?_
    refine .seq <| .region rfl <| .bs .no rfl (qs := []) (c := []) rfl sl_22 el_97 (by decide) rfl fun b1 => .m rfl rfl <| .see0 (seeEm0 12 97 (show Em (.sl b1 0 0 0) from .inr (.inr ⟨_, _, rfl⟩))) ?_
    refine .appR .no rfl rfl rfl rfl rfl (fun _ => .hd) sl_22 sl_22 el_97 (AccR.em (R := VersionR) (s := 12) (g := g) (.inr (.inr ⟨_, _, rfl⟩))) h0_0 (fun _ _ h => VersionR.one h) (by simpa using hl) fun new3 v3 hn3 => .as .hd fun av3 => ?_
    have ha3 := AccR.app (R := VersionR) (g := g) (ys := p0) (AccR.em (R := VersionR) (s := 12) (g := g) (show Em (.sl b1 0 0 0) from .inr (.inr ⟨_, _, rfl⟩))) hn3 (by simpa using hl) av3
    refine .z rfl rfl <| .nil <| sq_n <| .drop (.cons_cons _ (.cons _ (List.Sublist.refl _))) <| .ret ?_
    refine retQ_r (Le.refl _) (.tmp rfl .nil) rfl ?_
    exact ⟨_, _, rfl, rfl, ha3⟩
def F_slices_Clone_api_Put_api_Put (l : List Put) : Option (List Put) := ck (decide (l.length ≤ 1000000)) (some l)
theorem F_slices_Clone_api_Put_api_Put_ok (p0 : (List Put)) (v0_0 : V) (g : G) (h0_0 : RS PutR 2 g v0_0 p0) (r : (List Put)) (hF : F_slices_Clone_api_Put_api_Put p0 = some r) : Fw Tryz.prog natS (.f 143 [] []) [v0_0] g [] fun g' ml' q => ∃ (ds0 : List V) (w0_0 : V), ml' = [.acc w0_0 2 ds0 170] ∧ q = (w0_0) ∧ AccR PutR 2 g' w0_0 ds0 r := by
  obtain ⟨hl, hF⟩ := ckS hF
  obtain rfl := sI hF
  have hl := of_decide_eq_true hl
  refine Fw.enter (N := 8) (al := [(0, _)]) Tryz.func143 (by kernel_rfl) (by kernel_rfl) rfl rfl rfl rfl ?_
  intro B
  obtain ⟨h0, hs⟩ := id h0_0
  have hno : (v0_0 = .sn ∧ p0 = []) ∨ binV Tryz.prog .eql 92 (.tmp 3) (.const (.slice none 0 0)) v0_0 .sn = some (.b false) := by
    rcases hs with ⟨h, e⟩ | ⟨h | h, e⟩ | ⟨b, o, h, -⟩
    · exact .inl ⟨h, e⟩
    · subst h; exact .inr (by kernel_rfl)
    · subst h; exact .inr (by kernel_rfl)
    · cases h <;> exact .inr (by kernel_rfl)
  rcases hno with ⟨rfl, rfl⟩ | hno
  · refine .seq <| .region rfl <| .z rfl rfl <| .nil <| sq_n <| .seq <| .seq <| .region rfl <| .m rfl rfl <| .p .no rfl (.binE rfl rfl (v := .b true) (by kernel_rfl)) <| .nil <| sq_n <| .condT rfl rfl <| .seq <| .region rfl <| .z rfl rfl <| .nil <| sq_n ?_
    refine .see0 (seeEm0 (v := .sn) 2 170 (.inl rfl)) ?_
    refine .ret <| sq_r ?_
    refine retQ_r (Le.refl _) (.tmp rfl .nil) rfl ?_
    exact ⟨_, _, rfl, rfl, AccR.nil⟩
  · refine .seq <| .region rfl <| .z rfl rfl <| .nil <| sq_n <| .seq <| .seq <| .region rfl <| .m rfl rfl <| .p .no rfl (.binE rfl rfl hno) <| .nil <| sq_n <| .condF rfl rfl <| .skip <| sq_n ?_
    refine .seq <| .region rfl <| .bs .no rfl (qs := []) (c := []) rfl sl_92 el_170 (by decide) rfl fun b1 => .m rfl rfl <| .see0 (seeEm0 2 170 (show Em (.sl b1 0 0 0) from .inr (.inr ⟨_, _, rfl⟩))) ?_
    refine .appR .no rfl rfl rfl rfl rfl (fun _ => .hd) sl_92 sl_92 el_170 (AccR.em (R := PutR) (s := 2) (g := g) (.inr (.inr ⟨_, _, rfl⟩))) h0_0 (fun _ _ h => PutR.one h) (by simpa using hl) fun new3 v3 hn3 => .as .hd fun av3 => ?_
    have ha3 := AccR.app (R := PutR) (g := g) (ys := p0) (AccR.em (R := PutR) (s := 2) (g := g) (show Em (.sl b1 0 0 0) from .inr (.inr ⟨_, _, rfl⟩))) hn3 (by simpa using hl) av3
    refine .z rfl rfl <| .nil <| sq_n <| .drop (.cons_cons _ (.cons _ (List.Sublist.refl _))) <| .ret ?_
    refine retQ_r (Le.refl _) (.tmp rfl .nil) rfl ?_
    exact ⟨_, _, rfl, rfl, ha3⟩
def F_slices_Clone_api_Test_api_Test (l : List Test) : Option (List Test) := ck (decide (l.length ≤ 1000000)) (some l)
theorem F_slices_Clone_api_Test_api_Test_ok (p0 : (List Test)) (v0_0 : V) (g : G) (h0_0 : RS TestR 3 g v0_0 p0) (r : (List Test)) (hF : F_slices_Clone_api_Test_api_Test p0 = some r) : Fw Tryz.prog natS (.f 144 [] []) [v0_0] g [] fun g' ml' q => ∃ (ds0 : List V) (w0_0 : V), ml' = [.acc w0_0 3 ds0 172] ∧ q = (w0_0) ∧ AccR TestR 3 g' w0_0 ds0 r := by
  obtain ⟨hl, hF⟩ := ckS hF
  obtain rfl := sI hF
  have hl := of_decide_eq_true hl
  refine Fw.enter (N := 8) (al := [(0, _)]) Tryz.func144 (by kernel_rfl) (by kernel_rfl) rfl rfl rfl rfl ?_
  intro B
  obtain ⟨h0, hs⟩ := id h0_0
  have hno : (v0_0 = .sn ∧ p0 = []) ∨ binV Tryz.prog .eql 168 (.tmp 3) (.const (.slice none 0 0)) v0_0 .sn = some (.b false) := by
    rcases hs with ⟨h, e⟩ | ⟨h | h, e⟩ | ⟨b, o, h, -⟩
    · exact .inl ⟨h, e⟩
    · subst h; exact .inr (by kernel_rfl)
    · subst h; exact .inr (by kernel_rfl)
    · cases h <;> exact .inr (by kernel_rfl)
  rcases hno with ⟨rfl, rfl⟩ | hno
  · refine .seq <| .region rfl <| .z rfl rfl <| .nil <| sq_n <| .seq <| .seq <| .region rfl <| .m rfl rfl <| .p .no rfl (.binE rfl rfl (v := .b true) (by kernel_rfl)) <| .nil <| sq_n <| .condT rfl rfl <| .seq <| .region rfl <| .z rfl rfl <| .nil <| sq_n ?_
    refine .see0 (seeEm0 (v := .sn) 3 172 (.inl rfl)) ?_
    refine .ret <| sq_r ?_
    refine retQ_r (Le.refl _) (.tmp rfl .nil) rfl ?_
    exact ⟨_, _, rfl, rfl, AccR.nil⟩
  · refine .seq <| .region rfl <| .z rfl rfl <| .nil <| sq_n <| .seq <| .seq <| .region rfl <| .m rfl rfl <| .p .no rfl (.binE rfl rfl hno) <| .nil <| sq_n <| .condF rfl rfl <| .skip <| sq_n ?_
    refine .seq <| .region rfl <| .bs .no rfl (qs := []) (c := []) rfl sl_168 el_172 (by decide) rfl fun b1 => .m rfl rfl <| .see0 (seeEm0 3 172 (show Em (.sl b1 0 0 0) from .inr (.inr ⟨_, _, rfl⟩))) ?_
    refine .appR .no rfl rfl rfl rfl rfl (fun _ => .hd) sl_168 sl_168 el_172 (AccR.em (R := TestR) (s := 3) (g := g) (.inr (.inr ⟨_, _, rfl⟩))) h0_0 (fun _ _ h => TestR.one h) (by simpa using hl) fun new3 v3 hn3 => .as .hd fun av3 => ?_
    have ha3 := AccR.app (R := TestR) (g := g) (ys := p0) (AccR.em (R := TestR) (s := 3) (g := g) (show Em (.sl b1 0 0 0) from .inr (.inr ⟨_, _, rfl⟩))) hn3 (by simpa using hl) av3
    refine .z rfl rfl <| .nil <| sq_n <| .drop (.cons_cons _ (.cons _ (List.Sublist.refl _))) <| .ret ?_
    refine retQ_r (Le.refl _) (.tmp rfl .nil) rfl ?_
    exact ⟨_, _, rfl, rfl, ha3⟩
def F_slices_Clone_api_Piece_api_Piece (l : List Piece) : Option (List Piece) := ck (decide (l.length ≤ 1000000)) (some l)
theorem F_slices_Clone_api_Piece_api_Piece_ok (p0 : (List Piece)) (v0_0 : V) (g : G) (h0_0 : RS PieceR 3 g v0_0 p0) (r : (List Piece)) (hF : F_slices_Clone_api_Piece_api_Piece p0 = some r) : Fw Tryz.prog natS (.f 145 [] []) [v0_0] g [] fun g' ml' q => ∃ (ds0 : List V) (w0_0 : V), ml' = [.acc w0_0 3 ds0 157] ∧ q = (w0_0) ∧ AccR PieceR 3 g' w0_0 ds0 r := by
  obtain ⟨hl, hF⟩ := ckS hF
  obtain rfl := sI hF
  have hl := of_decide_eq_true hl
  refine Fw.enter (N := 8) (al := [(0, _)]) Tryz.func145 (by kernel_rfl) (by kernel_rfl) rfl rfl rfl rfl ?_
  intro B
  obtain ⟨h0, hs⟩ := id h0_0
  have hno : (v0_0 = .sn ∧ p0 = []) ∨ binV Tryz.prog .eql 93 (.tmp 3) (.const (.slice none 0 0)) v0_0 .sn = some (.b false) := by
    rcases hs with ⟨h, e⟩ | ⟨h | h, e⟩ | ⟨b, o, h, -⟩
    · exact .inl ⟨h, e⟩
    · subst h; exact .inr (by kernel_rfl)
    · subst h; exact .inr (by kernel_rfl)
    · cases h <;> exact .inr (by kernel_rfl)
  rcases hno with ⟨rfl, rfl⟩ | hno
  · refine .seq <| .region rfl <| .z rfl rfl <| .nil <| sq_n <| .seq <| .seq <| .region rfl <| .m rfl rfl <| .p .no rfl (.binE rfl rfl (v := .b true) (by kernel_rfl)) <| .nil <| sq_n <| .condT rfl rfl <| .seq <| .region rfl <| .z rfl rfl <| .nil <| sq_n ?_
    refine .see0 (seeEm0 (v := .sn) 3 157 (.inl rfl)) ?_
    refine .ret <| sq_r ?_
    refine retQ_r (Le.refl _) (.tmp rfl .nil) rfl ?_
    exact ⟨_, _, rfl, rfl, AccR.nil⟩
  · refine .seq <| .region rfl <| .z rfl rfl <| .nil <| sq_n <| .seq <| .seq <| .region rfl <| .m rfl rfl <| .p .no rfl (.binE rfl rfl hno) <| .nil <| sq_n <| .condF rfl rfl <| .skip <| sq_n ?_
    refine .seq <| .region rfl <| .bs .no rfl (qs := []) (c := []) rfl sl_93 el_157 (by decide) rfl fun b1 => .m rfl rfl <| .see0 (seeEm0 3 157 (show Em (.sl b1 0 0 0) from .inr (.inr ⟨_, _, rfl⟩))) ?_
    refine .appR .no rfl rfl rfl rfl rfl (fun _ => .hd) sl_93 sl_93 el_157 (AccR.em (R := PieceR) (s := 3) (g := g) (.inr (.inr ⟨_, _, rfl⟩))) h0_0 (fun _ _ h => PieceR.one h) (by simpa using hl) fun new3 v3 hn3 => .as .hd fun av3 => ?_
    have ha3 := AccR.app (R := PieceR) (g := g) (ys := p0) (AccR.em (R := PieceR) (s := 3) (g := g) (show Em (.sl b1 0 0 0) from .inr (.inr ⟨_, _, rfl⟩))) hn3 (by simpa using hl) av3
    refine .z rfl rfl <| .nil <| sq_n <| .drop (.cons_cons _ (.cons _ (List.Sublist.refl _))) <| .ret ?_
    refine retQ_r (Le.refl _) (.tmp rfl .nil) rfl ?_
    exact ⟨_, _, rfl, rfl, ha3⟩
def F_code_InForce (p0 : Code) (p1 : Int) : Option (Int × Int) := ((F_code_of p0).bind fun q2 => ((F_code_question_on q2 p1 0).bind fun q3 => some ((max q3.index_ 0), q3.e_)))
set_option maxHeartbeats 1000000 in
theorem F_code_InForce_ok (p0 : Code) (p1 : Int) (cs0 : List V) (g : G) (h0 : CodeR g cs0 p0) (r : Int × Int) (hF : F_code_InForce p0 p1 = some r) : Fv Tryz.prog natS (.f 55 [] []) [.agg cs0, .i .i64 p1] g (.tup [.i .i64 r.1, .i .i64 r.2]) := by
  refine Fw.fv ?_
  unfold F_code_InForce at hF
  obtain ⟨vq0, rfl, hcq0⟩ := h0
  have lh0_1 := hcq0.1
  refine Fw.enter (N := 20) (al := [(1, _), (0, _)]) Tryz.func55 (by kernel_rfl) (by kernel_rfl) rfl rfl rfl rfl ?_
  intro B
  refine .seq <| .region rfl <| .box .no rfl rfl rfl rfl fun b1 => .z rfl rfl <| .z rfl rfl <| .nil <| sq_n <| .seq <| .region rfl <| .ld .no rfl (.a (vs := [_, _]) rfl .hd a_24 s_24 rfl rfl) ?_
  obtain ⟨q2, hq2, hF⟩ := bS hF
  refine .call .no rfl rfl rfl (F_code_of_ok p0 _ _ ⟨_, rfl, hcq0⟩ _ hq2) ?_
  rintro g2 ml2 r2 hle2 ⟨b2_0, cs2_0, rfl, rfl, ⟨v1_2_0, v3_2_0, v4_2_0, v5_2_0, v6_2_0, v7_2_0, v8_2_0, v9_2_0, v10_2_0, v11_2_0, v12_2_0, v13_2_0, rfl, h1_2_0, h3_2_0, h4_2_0, h5_2_0, h6_2_0, h7_2_0, h8_2_0, h9_2_0, h10_2_0, h11_2_0, h12_2_0, h13_2_0⟩⟩
  have lh2_0_1 := h1_2_0.1
  have lh2_0_3 := h3_2_0.1
  have lh2_0_4 := h4_2_0.1
  have lh2_0_5 := h5_2_0.1
  have lh2_0_6 := h6_2_0.1
  have lh2_0_7 := h7_2_0.1
  have lh2_0_8 := h8_2_0.1
  have lh2_0_9 := h9_2_0.1
  have lh2_0_10 := h10_2_0.1
  have lh2_0_11 := h11_2_0.1
  have lh2_0_12 := h12_2_0.1
  have lh2_0_13 := h13_2_0.1
  refine .m rfl rfl ?_
  obtain ⟨q3, hq3, hF⟩ := bS hF
  refine .callT .no rfl rfl rfl .hd (F_code_question_on_ok q2 p1 0 _ _ _ ⟨_, _, _, _, _, _, _, _, _, _, _, _, rfl, h1_2_0, h3_2_0, h4_2_0, h5_2_0, h6_2_0, h7_2_0, h8_2_0, h9_2_0, h10_2_0, h11_2_0, h12_2_0, h13_2_0⟩ _ hq3) ?_
  rintro g3 ml3 r3 hle3 ⟨cs3_0, rfl, rfl, ⟨v1_3_0, v3_3_0, v4_3_0, v5_3_0, v6_3_0, v7_3_0, v8_3_0, v9_3_0, v10_3_0, v11_3_0, v12_3_0, v13_3_0, rfl, h1_3_0, h3_3_0, h4_3_0, h5_3_0, h6_3_0, h7_3_0, h8_3_0, h9_3_0, h10_3_0, h11_3_0, h12_3_0, h13_3_0⟩⟩
  have lh3_0_1 := h1_3_0.1
  have lh3_0_3 := h3_3_0.1
  have lh3_0_4 := h4_3_0.1
  have lh3_0_5 := h5_3_0.1
  have lh3_0_6 := h6_3_0.1
  have lh3_0_7 := h7_3_0.1
  have lh3_0_8 := h8_3_0.1
  have lh3_0_9 := h9_3_0.1
  have lh3_0_10 := h10_3_0.1
  have lh3_0_11 := h11_3_0.1
  have lh3_0_12 := h12_3_0.1
  have lh3_0_13 := h13_3_0.1
  refine .z rfl rfl <| .nil <| sq_n <| .seq <| .draw (tb := [r0 0 0, r0 1 0, r0 3 0, r0 7 0, r0 15 0, r0 0 0, r0 32 0, r0 96 0, r0 224 0, r0 31 0, r1 1023 0]) rfl (by kernel_rfl) (by kernel_rfl) ?_
  refine .m rfl rfl <| .p .no rfl (.nil rfl) rfl rfl rfl <| .p .no rfl (.fa rfl f_132_2) rfl rfl rfl <| .y rfl rfl rfl (.s rfl .hd a_3 rfl) <| .p .no rfl (.mx rfl rfl rfl rfl) rfl rfl rfl <| .m rfl rfl <| .p .no rfl (.nil rfl) rfl rfl rfl <| .p .no rfl (.fa rfl f_132_3) rfl rfl rfl <| .y rfl rfl rfl (.s rfl .hd a_30 rfl) <| .z rfl rfl <| .z rfl rfl <| .nil <| sq_n <| .ret ?_
  obtain rfl := sI hF
  refine retQ_r (hle2.trans hle3) (.tmp rfl (.tmp rfl .nil)) rfl ?_
  rfl
def F_r04_InForce (p0 : Code) (p1 : Int) : Option (Int × Int) := (cond (!(decide ((Code.err p0) = 0))) (some (0, (Code.err p0))) ((cond (!(within p1 0 100000)) (some (0, 6)) ((cond (decide ((forceI p0 p1) < 0)) (some (0, 45)) (some ((forceI p0 p1), 0)))))))
structure L_code_copied_1 where
  k1_1 : Nat
  z1_2 : Int
  cs1_5 : List V
  d1_3 : List Put
  v1_8 : V
  d1_7 : List Piece
  v1_11 : V
  d1_10 : List Piece
  v1_14 : V
  d1_13 : List Piece
  v1_17 : V
  d1_16 : List Piece
  v1_20 : V
  d1_19 : List Piece
  v1_23 : V
  d1_22 : List Piece
  v1_26 : V
  d1_25 : List Piece
  v1_29 : V
  d1_28 : List Piece
  v1_32 : V
  d1_31 : List Piece
  v1_35 : V
  d1_34 : List Piece
def F_code_copied_l1 : Nat → Nat → Int → List Put → List Piece → List Piece → List Piece → List Piece → List Piece → List Piece → List Piece → List Piece → List Piece → List Piece → Option ((Int × List Put × List Piece × List Piece × List Piece × List Piece × List Piece × List Piece × List Piece × List Piece × List Piece × List Piece))
  | 0, k1_1, z1_2, d1_3, d1_7, d1_10, d1_13, d1_16, d1_19, d1_22, d1_25, d1_28, d1_31, d1_34 => some ((z1_2, d1_3, d1_7, d1_10, d1_13, d1_16, d1_19, d1_22, d1_25, d1_28, d1_31, d1_34))
  | mm1 + 1, k1_1, z1_2, d1_3, d1_7, d1_10, d1_13, d1_16, d1_19, d1_22, d1_25, d1_28, d1_31, d1_34 => ((atI d1_3 (k1_1 : Int)).bind fun y5 => ((F_slices_Clone_api_Test_api_Test y5.tests).bind fun q7 => ((atI d1_3 (k1_1 : Int)).bind fun y8 => F_code_copied_l1 mm1 (k1_1 + 1) z1_2 (List.set d1_3 k1_1 (Put.mk y8.group q7)) d1_7 d1_10 d1_13 d1_16 d1_19 d1_22 d1_25 d1_28 d1_31 d1_34)))
def F_code_copied (p0 : Version) : Option (Version) := ((F_slices_Clone_api_Put_api_Put p0.puts).bind fun q3 => ((F_code_copied_l1 (((q3.length : Int) - (0 : Int)).toNat) 0 p0.fr q3 (p0.ln 0) (p0.ln 1) (p0.ln 2) (p0.ln 3) (p0.ln 4) (p0.ln 5) (p0.ln 6) (p0.ln 7) (p0.ln 8) (p0.ln 9)).bind fun ⟨o1_0_1, o1_0_2, o1_0_3, o1_0_4, o1_0_5, o1_0_6, o1_0_7, o1_0_8, o1_0_9, o1_0_10, o1_0_11, o1_0_12⟩ => ((F_slices_Clone_api_Piece_api_Piece o1_0_3).bind fun q11 => ((F_slices_Clone_api_Piece_api_Piece o1_0_4).bind fun q12 => ((F_slices_Clone_api_Piece_api_Piece o1_0_5).bind fun q13 => ((F_slices_Clone_api_Piece_api_Piece o1_0_6).bind fun q14 => ((F_slices_Clone_api_Piece_api_Piece o1_0_7).bind fun q15 => ((F_slices_Clone_api_Piece_api_Piece o1_0_8).bind fun q16 => ((F_slices_Clone_api_Piece_api_Piece o1_0_9).bind fun q17 => ((F_slices_Clone_api_Piece_api_Piece o1_0_10).bind fun q18 => ((F_slices_Clone_api_Piece_api_Piece o1_0_11).bind fun q19 => ((F_slices_Clone_api_Piece_api_Piece o1_0_12).bind fun q20 => some (Version.mk o1_0_1 o1_0_2 (arr [q11, q12, q13, q14, q15, q16, q17, q18, q19, q20] q11))))))))))))))
set_option maxHeartbeats 1000000 in
theorem F_code_copied_ok (p0 : Version) (cs0 : List V) (g : G) (h0 : VersionR g cs0 p0) (r : Version) (hF : F_code_copied p0 = some r) : Fw Tryz.prog natS (.f 104 [] []) [.agg cs0] g [] fun g' ml' q => ml' = [] ∧ ∃ (ds0 : List V), q = (.agg ds0) ∧ VersionR g' ds0 r := by
  refine Fw.drop ?_
  unfold F_code_copied at hF
  obtain ⟨pq0, lvq0, rfl, hpq0, hlq0⟩ := h0
  have lh0_1 := hpq0.1
  have lh0_2 := (hlq0 0 (by decide)).1
  have lh0_3 := (hlq0 1 (by decide)).1
  have lh0_4 := (hlq0 2 (by decide)).1
  have lh0_5 := (hlq0 3 (by decide)).1
  have lh0_6 := (hlq0 4 (by decide)).1
  have lh0_7 := (hlq0 5 (by decide)).1
  have lh0_8 := (hlq0 6 (by decide)).1
  have lh0_9 := (hlq0 7 (by decide)).1
  have lh0_10 := (hlq0 8 (by decide)).1
  have lh0_11 := (hlq0 9 (by decide)).1
  refine Fw.enter (N := 50) (al := [(0, _)]) Tryz.func104 (by kernel_rfl) (by kernel_rfl) rfl rfl rfl rfl ?_
  intro B
  refine .seq <| .region rfl <| .box .no rfl rfl rfl rfl fun b1 => .alloc .no rfl z_97 fun b2 => .nil <| sq_n <| .seq <| .region rfl <| .p .no rfl (.fa rfl f_97_1) <| .ld .no rfl (.s rfl (.tl .hd) a_92 rfl) ?_
  obtain ⟨q3, hq3, hF⟩ := bS hF
  refine .call .no rfl rfl rfl (F_slices_Clone_api_Put_api_Put_ok p0.puts _ _ hpq0 _ hq3) ?_
  rintro g3 ml3 r3 hle3 ⟨cs3_0, w3_0, rfl, rfl, ha3_0⟩
  replace hlq0 := fun k hk => (hlq0 k hk).mono PieceR.mono hle3
  have lha3_0 := ha3_0.le
  refine .p .no rfl (.fa rfl f_97_1) <| .st (cs' := [_, _, _, _, _, _, _, _, _, _, _, _]) .no rfl rfl ha3_0.any ha3_0.cells s_92 rfl rfl (.tl (.tl .hd)) rfl (allOne_cons ha3_0.one rfl) <| .nil <| sq_n <| .seq <| .seq <| .region rfl <| .p .no rfl (.fa rfl f_97_1) <| .ld .no rfl (.s rfl (.tl (.tl .hd)) a_92 rfl) <| .p .no rfl (.lenA rfl rfl rfl e_92 (by decide) ha3_0) <| .m rfl rfl <| .nil <| sq_n <| .block ?_
  obtain ⟨o1, hF, hG1⟩ := bS hF
  refine .loopx (α := L_code_copied_1) [(1, _), (2, _), (13, _), (14, _)] [_] (fun fx x => (15, .i .i64 (x.k1_1 : Int)) :: fx) (fun mx x => [.acc r3 2 x.cs1_5 170, rg mx 0, .blk b1 (.cells [.i .i64 x.z1_2, r3, x.v1_8, x.v1_11, x.v1_14, x.v1_17, x.v1_20, x.v1_23, x.v1_26, x.v1_29, x.v1_32, x.v1_35] 97)]) (fun x g' => AccR PutR 2 g' r3 x.cs1_5 x.d1_3 ∧ RS PieceR 3 g' x.v1_8 x.d1_7 ∧ RS PieceR 3 g' x.v1_11 x.d1_10 ∧ RS PieceR 3 g' x.v1_14 x.d1_13 ∧ RS PieceR 3 g' x.v1_17 x.d1_16 ∧ RS PieceR 3 g' x.v1_20 x.d1_19 ∧ RS PieceR 3 g' x.v1_23 x.d1_22 ∧ RS PieceR 3 g' x.v1_26 x.d1_25 ∧ RS PieceR 3 g' x.v1_29 x.d1_28 ∧ RS PieceR 3 g' x.v1_32 x.d1_31 ∧ RS PieceR 3 g' x.v1_35 x.d1_34 ∧ F_code_copied_l1 (((q3.length : Int) - (x.k1_1 : Int)).toNat) x.k1_1 x.z1_2 x.d1_3 x.d1_7 x.d1_10 x.d1_13 x.d1_16 x.d1_19 x.d1_22 x.d1_25 x.d1_28 x.d1_31 x.d1_34 = some o1) (fun x => ((q3.length : Int) - (x.k1_1 : Int)).toNat) (L_code_copied_1.mk 0 p0.fr _ q3 _ (p0.ln 0) _ (p0.ln 1) _ (p0.ln 2) _ (p0.ln 3) _ (p0.ln 4) _ (p0.ln 5) _ (p0.ln 6) _ (p0.ln 7) _ (p0.ln 8) _ (p0.ln 9)) ⟨rfl, rfl, rfl, rfl, rfl, trivial⟩ (List.Sublist.refl _) ⟨ha3_0, (hlq0 0 (by decide)), (hlq0 1 (by decide)), (hlq0 2 (by decide)), (hlq0 3 (by decide)), (hlq0 4 (by decide)), (hlq0 5 (by decide)), (hlq0 6 (by decide)), (hlq0 7 (by decide)), (hlq0 8 (by decide)), (hlq0 9 (by decide)), hF⟩ ?_
  intro x1 gl1 hlo1 hJ1
  obtain ⟨k1_1, z1_2, cs1_5, d1_3, v1_8, d1_7, v1_11, d1_10, v1_14, d1_13, v1_17, d1_16, v1_20, d1_19, v1_23, d1_22, v1_26, d1_25, v1_29, d1_28, v1_32, d1_31, v1_35, d1_34⟩ := x1
  try dsimp only at hJ1
  obtain ⟨ha1_6, hr1_9, hr1_12, hr1_15, hr1_18, hr1_21, hr1_24, hr1_27, hr1_30, hr1_33, hr1_36, hF⟩ := hJ1
  refine .al0 [(15, .i .i64 (k1_1 : Int)), (1, _), (2, _), (13, _), (14, _)] ?_
  have lha1_6 := ha1_6.le
  have lhr1_9 := hr1_9.1
  have lhr1_12 := hr1_12.1
  have lhr1_15 := hr1_15.1
  have lhr1_18 := hr1_18.1
  have lhr1_21 := hr1_21.1
  have lhr1_24 := hr1_24.1
  have lhr1_27 := hr1_27.1
  have lhr1_30 := hr1_30.1
  have lhr1_33 := hr1_33.1
  have lhr1_36 := hr1_36.1
  refine .seq <| .region rfl <| .b rfl rfl rfl rfl <| .nil <| sq_n <| .seq <| .cond rfl (fun h4 => ?_) (fun h4 => ?_)
  ·have kh4 := dT h4
   have em1 : ((q3.length : Int) - (k1_1 : Int)).toNat = ((q3.length : Int) - ((k1_1 + 1 : Nat) : Int)).toNat + 1 := by omega
   rw [em1, F_code_copied_l1] at hF
   refine .skip <| sq_n <| .seq <| .block <| .seq <| .region rfl <| .m rfl rfl ?_
   obtain ⟨y5, hy5, hF⟩ := bS hF
   have hj5 := atI_lt hy5
   have hy5 := atI_get hy5
   refine .ixA .no rfl rfl ha1_6 rfl e_92 (by decide) hj5.1 hy5 ?_
   intro b5 n5 cs5 hv5 hc5 hd5 hr5
   obtain ⟨v5, rfl, ht5⟩ := hr5
   have lh5_1 := ht5.1
   refine .ld .no rfl (.aa 0 (vs := [_, _]) rfl (.acc hv5 rfl) rfl hd5 hc5 (AccR.cellsLe ha1_6 hy5) a_170 s_170 rfl rfl) <| .alloc .no rfl z_170 fun b6 => .z rfl rfl <| .st (cs' := [_, _]) .no rfl rfl rfl rfl s_170 rfl rfl .hd rfl (allOne_cons rfl (allOne_cons ht5.one rfl)) <| .nil <| sq_n <| .draw (tb := [r0 0 0, r0 1 0, r0 0 0, r0 0 0, r0 8 0, r0 24 0, r1 63 1, r1 127 1, r1 255 1]) rfl (by kernel_rfl) (by kernel_rfl) ?_
   refine .p .no rfl (.fa rfl f_97_1) rfl rfl rfl <| .y rfl rfl rfl (.s rfl (.tl (.tl (.tl .hd))) a_92 rfl) <| .m rfl rfl <| .p .no rfl (.fa rfl f_170_1) rfl rfl rfl <| .y rfl rfl rfl (.s rfl .hd a_168 rfl) ?_
   obtain ⟨q7, hq7, hF⟩ := bS hF
   refine .call .no rfl rfl rfl rfl rfl (F_slices_Clone_api_Test_api_Test_ok y5.tests _ _ ht5 _ hq7) ?_
   rintro g7 ml7 r7 hle7 ⟨cs7_0, w7_0, rfl, rfl, ha7_0⟩
   replace ha1_6 := ha1_6.mono PutR.mono hle7
   replace hr1_9 := hr1_9.mono PieceR.mono hle7
   replace hr1_12 := hr1_12.mono PieceR.mono hle7
   replace hr1_15 := hr1_15.mono PieceR.mono hle7
   replace hr1_18 := hr1_18.mono PieceR.mono hle7
   replace hr1_21 := hr1_21.mono PieceR.mono hle7
   replace hr1_24 := hr1_24.mono PieceR.mono hle7
   replace hr1_27 := hr1_27.mono PieceR.mono hle7
   replace hr1_30 := hr1_30.mono PieceR.mono hle7
   replace hr1_33 := hr1_33.mono PieceR.mono hle7
   replace hr1_36 := hr1_36.mono PieceR.mono hle7
   have lha7_0 := ha7_0.le
   obtain ⟨y8, hy8, hF⟩ := bS hF
   have hj8 := atI_lt hy8
   have hy8 := atI_get hy8
   refine .ixA .no rfl rfl ha1_6 rfl e_92 (by decide) hj8.1 hy8 ?_
   intro b8 n8 cs8 hv8 hc8 hd8 hr8
   obtain ⟨v8, rfl, ht8⟩ := hr8
   have lh8_1 := ht8.1
   refine .p .no rfl (.fa rfl f_170_1) rfl rfl rfl <| .see (seeFreeze TestR.mono .hd (by decide) ha7_0) ?_
   rintro gz9 ⟨hle9, hz9⟩
   replace ha1_6 := ha1_6.mono PutR.mono hle9
   replace hr1_9 := hr1_9.mono PieceR.mono hle9
   replace hr1_12 := hr1_12.mono PieceR.mono hle9
   replace hr1_15 := hr1_15.mono PieceR.mono hle9
   replace hr1_18 := hr1_18.mono PieceR.mono hle9
   replace hr1_21 := hr1_21.mono PieceR.mono hle9
   replace hr1_24 := hr1_24.mono PieceR.mono hle9
   replace hr1_27 := hr1_27.mono PieceR.mono hle9
   replace hr1_30 := hr1_30.mono PieceR.mono hle9
   replace hr1_33 := hr1_33.mono PieceR.mono hle9
   replace hr1_36 := hr1_36.mono PieceR.mono hle9
   refine .see0 (seeBlk0 (.tl .hd) hv8) <| .st (cs' := _) .no rfl rfl rfl rfl hz9.any hz9.cells s_168 rfl rfl .hd (AccR.ble (k := 1) ha1_6 hy8 (by decide)) (allOne_cons hz9.one rfl) (.all (allA_c rfl (allA_c rfl rfl))) ?_
   have ha10 := AccR.set (k := 1) (us := [r7]) (y' := (Put.mk y8.group q7)) ha1_6 hy8 hd8 (Nat.le_of_ble_eq_true rfl) ⟨_, rfl, hz9⟩
   have hd10 := AccR.part (k := 1) (us := [r7]) ha1_6 hy8 hd8 (Nat.le_of_ble_eq_true rfl)
   refine .see0 (seeAcc0 .hd hv8 ha10.sh) ?_
   have lha10 := ha10.le
   refine .nil <| bq_n <| sq_n <| .region rfl <| .p .no rfl (.inc1 rfl rfl (by omega)) <| .m rfl rfl <| .nil <| loopQ_n (L_code_copied_1.mk (k1_1 + 1) z1_2 _ (List.set d1_3 k1_1 (Put.mk y8.group q7)) _ d1_7 _ d1_10 _ d1_13 _ d1_16 _ d1_19 _ d1_22 _ d1_25 _ d1_28 _ d1_31 _ d1_34) ⟨rfl, rfl, rfl, rfl, rfl, trivial⟩ (.cons_cons _ (.cons _ (List.Sublist.refl _))) (hle7.trans hle9) ?_ ?_
   ·exact ⟨ha10, hr1_9, hr1_12, hr1_15, hr1_18, hr1_21, hr1_24, hr1_27, hr1_30, hr1_33, hr1_36, hF⟩
   ·simp only; omega
  ·have kh4 := dF h4
   have em1 : ((q3.length : Int) - (k1_1 : Int)).toNat = 0 := by omega
   rw [em1, F_code_copied_l1] at hF
   obtain rfl := sI hF
   have hF := hG1
   refine .exit <| sq_e <| lq_e <| bq_x rfl <| sq_n <| .seq <| .seq <| .region rfl <| .m rfl rfl <| .nil <| sq_n <| .block <| .unroll <| .seq <| .region rfl <| .b rfl rfl rfl rfl <| .nil <| sq_n <| .seq <| .condT rfl (by decide) <| .skip <| sq_n <| .seq <| .block <| .seq <| .region rfl <| .m rfl rfl <| .z rfl rfl <| .nil <| sq_n <| .seq <| .region rfl <| .m rfl rfl <| .p .no rfl (.fa rfl f_97_2) <| .p .no rfl (.ixa (j := 0) rfl rfl ae_95 (by decide)) <| .ld .no rfl (.a (vs := [_, _, _, _, _]) rfl (.tl (.tl .hd)) a_94 s_94 rfl rfl) <| .m rfl rfl <| .nil <| sq_n ?_
   refine .block <| .unroll <| .seq <| .region rfl <| .b rfl rfl rfl rfl <| .nil <| sq_n <| .seq <| .condT rfl (by decide) <| .skip <| sq_n <| .seq <| .block <| .seq <| .region rfl <| .m rfl rfl <| .p .no rfl (.ixv (j := 0) rfl rfl ar_94 s_93 (by decide) (partV_s a_93 rfl)) <| .z rfl rfl <| .z rfl rfl <| .nil <| sq_n <| .draw (tb := [r1 0 0, r1 0 0, r1 0 0, r1 4 0, r1 0 0, r1 17 0, r1 63 1, r1 127 1]) rfl (by kernel_rfl) (by kernel_rfl) ?_
   refine .m rfl rfl <| .m rfl rfl <| .m rfl rfl ?_
   obtain ⟨q11, hq11, hF⟩ := bS hF
   refine .call .no rfl rfl rfl rfl rfl (F_slices_Clone_api_Piece_api_Piece_ok d1_7 _ _ hr1_9 _ hq11) ?_
   rintro g11 ml11 r11 hle11 ⟨cs11_0, w11_0, rfl, rfl, ha11_0⟩
   replace ha1_6 := ha1_6.mono PutR.mono hle11
   replace hr1_12 := hr1_12.mono PieceR.mono hle11
   replace hr1_15 := hr1_15.mono PieceR.mono hle11
   replace hr1_18 := hr1_18.mono PieceR.mono hle11
   replace hr1_21 := hr1_21.mono PieceR.mono hle11
   replace hr1_24 := hr1_24.mono PieceR.mono hle11
   replace hr1_27 := hr1_27.mono PieceR.mono hle11
   replace hr1_30 := hr1_30.mono PieceR.mono hle11
   replace hr1_33 := hr1_33.mono PieceR.mono hle11
   replace hr1_36 := hr1_36.mono PieceR.mono hle11
   have lha11_0 := ha11_0.le
   refine .p .no rfl (.fa rfl f_97_2) rfl rfl rfl <| .p .no rfl (.ixa (j := 0) rfl rfl ae_95 (by decide)) rfl rfl rfl <| .p .no rfl (.ixa (j := 0) rfl rfl ae_94 (by decide)) rfl rfl rfl <| .st (cs' := [_, _, _, _, _, _, _, _, _, _, _, _]) .no rfl rfl rfl rfl ha11_0.any ha11_0.cells s_93 rfl rfl (.tl (.tl (.tl .hd))) rfl (allOne_cons ha11_0.one rfl) (.all rfl) <| .nil <| bq_n <| sq_n <| .region rfl <| .p .no rfl (.addL (c := 1) rfl rfl rfl (by decide)) <| .m rfl rfl <| .nil <| sq_n <| .unroll <| .seq <| .region rfl <| .b rfl rfl rfl rfl <| .nil <| sq_n <| .seq <| .condT rfl (by decide) <| .skip <| sq_n <| .seq <| .block <| .seq <| .region rfl <| .m rfl rfl <| .p .no rfl (.ixv (j := 1) rfl rfl ar_94 s_93 (by decide) (partV_s a_93 rfl)) <| .z rfl rfl <| .z rfl rfl <| .nil <| sq_n <| .draw (tb := [r1 0 0, r1 0 0, r1 0 0, r1 4 0, r1 0 0, r1 17 0, r1 63 1, r1 127 1]) rfl (by kernel_rfl) (by kernel_rfl) ?_
   refine .m rfl rfl <| .m rfl rfl <| .m rfl rfl ?_
   obtain ⟨q12, hq12, hF⟩ := bS hF
   refine .call .no rfl rfl rfl rfl rfl (F_slices_Clone_api_Piece_api_Piece_ok d1_10 _ _ hr1_12 _ hq12) ?_
   rintro g12 ml12 r12 hle12 ⟨cs12_0, w12_0, rfl, rfl, ha12_0⟩
   replace ha1_6 := ha1_6.mono PutR.mono hle12
   replace hr1_15 := hr1_15.mono PieceR.mono hle12
   replace hr1_18 := hr1_18.mono PieceR.mono hle12
   replace hr1_21 := hr1_21.mono PieceR.mono hle12
   replace hr1_24 := hr1_24.mono PieceR.mono hle12
   replace hr1_27 := hr1_27.mono PieceR.mono hle12
   replace hr1_30 := hr1_30.mono PieceR.mono hle12
   replace hr1_33 := hr1_33.mono PieceR.mono hle12
   replace hr1_36 := hr1_36.mono PieceR.mono hle12
   replace ha11_0 := ha11_0.mono PieceR.mono hle12
   have lha12_0 := ha12_0.le
   refine .p .no rfl (.fa rfl f_97_2) rfl rfl rfl <| .p .no rfl (.ixa (j := 0) rfl rfl ae_95 (by decide)) rfl rfl rfl <| .p .no rfl (.ixa (j := 1) rfl rfl ae_94 (by decide)) rfl rfl rfl <| .st (cs' := [_, _, _, _, _, _, _, _, _, _, _, _]) .no rfl rfl rfl rfl ha12_0.any ha12_0.cells s_93 rfl rfl (.tl (.tl (.tl (.tl .hd)))) rfl (allOne_cons ha12_0.one rfl) (.all rfl) <| .nil <| bq_n <| sq_n <| .region rfl <| .p .no rfl (.addL (c := 2) rfl rfl rfl (by decide)) <| .m rfl rfl <| .nil <| sq_n <| .unroll <| .seq <| .region rfl <| .b rfl rfl rfl rfl <| .nil <| sq_n <| .seq <| .condT rfl (by decide) <| .skip <| sq_n <| .seq <| .block <| .seq <| .region rfl <| .m rfl rfl <| .p .no rfl (.ixv (j := 2) rfl rfl ar_94 s_93 (by decide) (partV_s a_93 rfl)) <| .z rfl rfl <| .z rfl rfl <| .nil <| sq_n <| .draw (tb := [r1 0 0, r1 0 0, r1 0 0, r1 4 0, r1 0 0, r1 17 0, r1 63 1, r1 127 1]) rfl (by kernel_rfl) (by kernel_rfl) ?_
   refine .m rfl rfl <| .m rfl rfl <| .m rfl rfl ?_
   obtain ⟨q13, hq13, hF⟩ := bS hF
   refine .call .no rfl rfl rfl rfl rfl (F_slices_Clone_api_Piece_api_Piece_ok d1_13 _ _ hr1_15 _ hq13) ?_
   rintro g13 ml13 r13 hle13 ⟨cs13_0, w13_0, rfl, rfl, ha13_0⟩
   replace ha1_6 := ha1_6.mono PutR.mono hle13
   replace hr1_18 := hr1_18.mono PieceR.mono hle13
   replace hr1_21 := hr1_21.mono PieceR.mono hle13
   replace hr1_24 := hr1_24.mono PieceR.mono hle13
   replace hr1_27 := hr1_27.mono PieceR.mono hle13
   replace hr1_30 := hr1_30.mono PieceR.mono hle13
   replace hr1_33 := hr1_33.mono PieceR.mono hle13
   replace hr1_36 := hr1_36.mono PieceR.mono hle13
   replace ha11_0 := ha11_0.mono PieceR.mono hle13
   replace ha12_0 := ha12_0.mono PieceR.mono hle13
   have lha13_0 := ha13_0.le
   refine .p .no rfl (.fa rfl f_97_2) rfl rfl rfl <| .p .no rfl (.ixa (j := 0) rfl rfl ae_95 (by decide)) rfl rfl rfl <| .p .no rfl (.ixa (j := 2) rfl rfl ae_94 (by decide)) rfl rfl rfl <| .st (cs' := [_, _, _, _, _, _, _, _, _, _, _, _]) .no rfl rfl rfl rfl ha13_0.any ha13_0.cells s_93 rfl rfl (.tl (.tl (.tl (.tl (.tl .hd))))) rfl (allOne_cons ha13_0.one rfl) (.all rfl) <| .nil <| bq_n <| sq_n <| .region rfl <| .p .no rfl (.addL (c := 3) rfl rfl rfl (by decide)) <| .m rfl rfl <| .nil <| sq_n <| .unroll <| .seq <| .region rfl <| .b rfl rfl rfl rfl <| .nil <| sq_n <| .seq <| .condT rfl (by decide) <| .skip <| sq_n <| .seq <| .block <| .seq <| .region rfl <| .m rfl rfl <| .p .no rfl (.ixv (j := 3) rfl rfl ar_94 s_93 (by decide) (partV_s a_93 rfl)) <| .z rfl rfl <| .z rfl rfl <| .nil <| sq_n <| .draw (tb := [r1 0 0, r1 0 0, r1 0 0, r1 4 0, r1 0 0, r1 17 0, r1 63 1, r1 127 1]) rfl (by kernel_rfl) (by kernel_rfl) ?_
   refine .m rfl rfl <| .m rfl rfl <| .m rfl rfl ?_
   obtain ⟨q14, hq14, hF⟩ := bS hF
   refine .call .no rfl rfl rfl rfl rfl (F_slices_Clone_api_Piece_api_Piece_ok d1_16 _ _ hr1_18 _ hq14) ?_
   rintro g14 ml14 r14 hle14 ⟨cs14_0, w14_0, rfl, rfl, ha14_0⟩
   replace ha1_6 := ha1_6.mono PutR.mono hle14
   replace hr1_21 := hr1_21.mono PieceR.mono hle14
   replace hr1_24 := hr1_24.mono PieceR.mono hle14
   replace hr1_27 := hr1_27.mono PieceR.mono hle14
   replace hr1_30 := hr1_30.mono PieceR.mono hle14
   replace hr1_33 := hr1_33.mono PieceR.mono hle14
   replace hr1_36 := hr1_36.mono PieceR.mono hle14
   replace ha11_0 := ha11_0.mono PieceR.mono hle14
   replace ha12_0 := ha12_0.mono PieceR.mono hle14
   replace ha13_0 := ha13_0.mono PieceR.mono hle14
   have lha14_0 := ha14_0.le
   refine .p .no rfl (.fa rfl f_97_2) rfl rfl rfl <| .p .no rfl (.ixa (j := 0) rfl rfl ae_95 (by decide)) rfl rfl rfl <| .p .no rfl (.ixa (j := 3) rfl rfl ae_94 (by decide)) rfl rfl rfl <| .st (cs' := [_, _, _, _, _, _, _, _, _, _, _, _]) .no rfl rfl rfl rfl ha14_0.any ha14_0.cells s_93 rfl rfl (.tl (.tl (.tl (.tl (.tl (.tl .hd)))))) rfl (allOne_cons ha14_0.one rfl) (.all rfl) <| .nil <| bq_n <| sq_n <| .region rfl <| .p .no rfl (.addL (c := 4) rfl rfl rfl (by decide)) <| .m rfl rfl <| .nil <| sq_n <| .unroll <| .seq <| .region rfl <| .b rfl rfl rfl rfl <| .nil <| sq_n <| .seq <| .condT rfl (by decide) <| .skip <| sq_n <| .seq <| .block <| .seq <| .region rfl <| .m rfl rfl <| .p .no rfl (.ixv (j := 4) rfl rfl ar_94 s_93 (by decide) (partV_s a_93 rfl)) <| .z rfl rfl <| .z rfl rfl <| .nil <| sq_n <| .draw (tb := [r1 0 0, r1 0 0, r1 0 0, r1 4 0, r1 0 0, r1 17 0, r1 63 1, r1 127 1]) rfl (by kernel_rfl) (by kernel_rfl) ?_
   refine .m rfl rfl <| .m rfl rfl <| .m rfl rfl ?_
   obtain ⟨q15, hq15, hF⟩ := bS hF
   refine .call .no rfl rfl rfl rfl rfl (F_slices_Clone_api_Piece_api_Piece_ok d1_19 _ _ hr1_21 _ hq15) ?_
   rintro g15 ml15 r15 hle15 ⟨cs15_0, w15_0, rfl, rfl, ha15_0⟩
   replace ha1_6 := ha1_6.mono PutR.mono hle15
   replace hr1_24 := hr1_24.mono PieceR.mono hle15
   replace hr1_27 := hr1_27.mono PieceR.mono hle15
   replace hr1_30 := hr1_30.mono PieceR.mono hle15
   replace hr1_33 := hr1_33.mono PieceR.mono hle15
   replace hr1_36 := hr1_36.mono PieceR.mono hle15
   replace ha11_0 := ha11_0.mono PieceR.mono hle15
   replace ha12_0 := ha12_0.mono PieceR.mono hle15
   replace ha13_0 := ha13_0.mono PieceR.mono hle15
   replace ha14_0 := ha14_0.mono PieceR.mono hle15
   have lha15_0 := ha15_0.le
   refine .p .no rfl (.fa rfl f_97_2) rfl rfl rfl <| .p .no rfl (.ixa (j := 0) rfl rfl ae_95 (by decide)) rfl rfl rfl <| .p .no rfl (.ixa (j := 4) rfl rfl ae_94 (by decide)) rfl rfl rfl <| .st (cs' := [_, _, _, _, _, _, _, _, _, _, _, _]) .no rfl rfl rfl rfl ha15_0.any ha15_0.cells s_93 rfl rfl (.tl (.tl (.tl (.tl (.tl (.tl (.tl .hd))))))) rfl (allOne_cons ha15_0.one rfl) (.all rfl) <| .nil <| bq_n <| sq_n <| .region rfl <| .p .no rfl (.addL (c := 5) rfl rfl rfl (by decide)) <| .m rfl rfl <| .nil <| sq_n <| .unroll <| .seq <| .region rfl <| .b rfl rfl rfl rfl <| .nil <| sq_n <| .seq <| .condF rfl (by decide) <| .exit <| sq_e <| sq_e <| bq_x rfl <| bq_n <| sq_n <| .region rfl <| .p .no rfl (.addL (c := 1) rfl rfl rfl (by decide)) <| .m rfl rfl <| .nil <| sq_n <| .unroll <| .seq <| .region rfl <| .b rfl rfl rfl rfl <| .nil <| sq_n <| .seq <| .condT rfl (by decide) <| .skip <| sq_n <| .seq ?_
   refine .block <| .seq <| .region rfl <| .m rfl rfl <| .z rfl rfl <| .nil <| sq_n <| .seq <| .region rfl <| .m rfl rfl <| .p .no rfl (.fa rfl f_97_2) <| .p .no rfl (.ixa (j := 1) rfl rfl ae_95 (by decide)) <| .ld .no rfl (.a (vs := [_, _, _, _, _]) rfl (.tl (.tl (.tl (.tl (.tl (.tl (.tl .hd))))))) a_94 s_94 rfl rfl) <| .m rfl rfl <| .nil <| sq_n <| .block <| .unroll <| .seq <| .region rfl <| .b rfl rfl rfl rfl <| .nil <| sq_n <| .seq <| .condT rfl (by decide) <| .skip <| sq_n <| .seq <| .block <| .seq <| .region rfl <| .m rfl rfl <| .p .no rfl (.ixv (j := 0) rfl rfl ar_94 s_93 (by decide) (partV_s a_93 rfl)) <| .z rfl rfl ?_
   refine .z rfl rfl <| .nil <| sq_n <| .draw (tb := [r1 0 0, r1 0 0, r1 0 0, r1 4 0, r1 0 0, r1 17 0, r1 63 1, r1 127 1]) rfl (by kernel_rfl) (by kernel_rfl) ?_
   refine .m rfl rfl <| .m rfl rfl <| .m rfl rfl ?_
   obtain ⟨q16, hq16, hF⟩ := bS hF
   refine .call .no rfl rfl rfl rfl rfl (F_slices_Clone_api_Piece_api_Piece_ok d1_22 _ _ hr1_24 _ hq16) ?_
   rintro g16 ml16 r16 hle16 ⟨cs16_0, w16_0, rfl, rfl, ha16_0⟩
   replace ha1_6 := ha1_6.mono PutR.mono hle16
   replace hr1_27 := hr1_27.mono PieceR.mono hle16
   replace hr1_30 := hr1_30.mono PieceR.mono hle16
   replace hr1_33 := hr1_33.mono PieceR.mono hle16
   replace hr1_36 := hr1_36.mono PieceR.mono hle16
   replace ha11_0 := ha11_0.mono PieceR.mono hle16
   replace ha12_0 := ha12_0.mono PieceR.mono hle16
   replace ha13_0 := ha13_0.mono PieceR.mono hle16
   replace ha14_0 := ha14_0.mono PieceR.mono hle16
   replace ha15_0 := ha15_0.mono PieceR.mono hle16
   have lha16_0 := ha16_0.le
   refine .p .no rfl (.fa rfl f_97_2) rfl rfl rfl <| .p .no rfl (.ixa (j := 1) rfl rfl ae_95 (by decide)) rfl rfl rfl <| .p .no rfl (.ixa (j := 0) rfl rfl ae_94 (by decide)) rfl rfl rfl <| .st (cs' := [_, _, _, _, _, _, _, _, _, _, _, _]) .no rfl rfl rfl rfl ha16_0.any ha16_0.cells s_93 rfl rfl (.tl (.tl (.tl (.tl (.tl (.tl (.tl (.tl .hd)))))))) rfl (allOne_cons ha16_0.one rfl) (.all rfl) <| .nil <| bq_n <| sq_n <| .region rfl <| .p .no rfl (.addL (c := 1) rfl rfl rfl (by decide)) <| .m rfl rfl <| .nil <| sq_n <| .unroll <| .seq <| .region rfl <| .b rfl rfl rfl rfl <| .nil <| sq_n <| .seq <| .condT rfl (by decide) <| .skip <| sq_n <| .seq <| .block <| .seq <| .region rfl <| .m rfl rfl <| .p .no rfl (.ixv (j := 1) rfl rfl ar_94 s_93 (by decide) (partV_s a_93 rfl)) <| .z rfl rfl <| .z rfl rfl <| .nil <| sq_n <| .draw (tb := [r1 0 0, r1 0 0, r1 0 0, r1 4 0, r1 0 0, r1 17 0, r1 63 1, r1 127 1]) rfl (by kernel_rfl) (by kernel_rfl) ?_
   refine .m rfl rfl <| .m rfl rfl <| .m rfl rfl ?_
   obtain ⟨q17, hq17, hF⟩ := bS hF
   refine .call .no rfl rfl rfl rfl rfl (F_slices_Clone_api_Piece_api_Piece_ok d1_25 _ _ hr1_27 _ hq17) ?_
   rintro g17 ml17 r17 hle17 ⟨cs17_0, w17_0, rfl, rfl, ha17_0⟩
   replace ha1_6 := ha1_6.mono PutR.mono hle17
   replace hr1_30 := hr1_30.mono PieceR.mono hle17
   replace hr1_33 := hr1_33.mono PieceR.mono hle17
   replace hr1_36 := hr1_36.mono PieceR.mono hle17
   replace ha11_0 := ha11_0.mono PieceR.mono hle17
   replace ha12_0 := ha12_0.mono PieceR.mono hle17
   replace ha13_0 := ha13_0.mono PieceR.mono hle17
   replace ha14_0 := ha14_0.mono PieceR.mono hle17
   replace ha15_0 := ha15_0.mono PieceR.mono hle17
   replace ha16_0 := ha16_0.mono PieceR.mono hle17
   have lha17_0 := ha17_0.le
   refine .p .no rfl (.fa rfl f_97_2) rfl rfl rfl <| .p .no rfl (.ixa (j := 1) rfl rfl ae_95 (by decide)) rfl rfl rfl <| .p .no rfl (.ixa (j := 1) rfl rfl ae_94 (by decide)) rfl rfl rfl <| .st (cs' := [_, _, _, _, _, _, _, _, _, _, _, _]) .no rfl rfl rfl rfl ha17_0.any ha17_0.cells s_93 rfl rfl (.tl (.tl (.tl (.tl (.tl (.tl (.tl (.tl (.tl .hd))))))))) rfl (allOne_cons ha17_0.one rfl) (.all rfl) <| .nil <| bq_n <| sq_n <| .region rfl <| .p .no rfl (.addL (c := 2) rfl rfl rfl (by decide)) <| .m rfl rfl <| .nil <| sq_n <| .unroll <| .seq <| .region rfl <| .b rfl rfl rfl rfl <| .nil <| sq_n <| .seq <| .condT rfl (by decide) <| .skip <| sq_n <| .seq <| .block <| .seq <| .region rfl <| .m rfl rfl <| .p .no rfl (.ixv (j := 2) rfl rfl ar_94 s_93 (by decide) (partV_s a_93 rfl)) <| .z rfl rfl <| .z rfl rfl <| .nil <| sq_n <| .draw (tb := [r1 0 0, r1 0 0, r1 0 0, r1 4 0, r1 0 0, r1 17 0, r1 63 1, r1 127 1]) rfl (by kernel_rfl) (by kernel_rfl) ?_
   refine .m rfl rfl <| .m rfl rfl <| .m rfl rfl ?_
   obtain ⟨q18, hq18, hF⟩ := bS hF
   refine .call .no rfl rfl rfl rfl rfl (F_slices_Clone_api_Piece_api_Piece_ok d1_28 _ _ hr1_30 _ hq18) ?_
   rintro g18 ml18 r18 hle18 ⟨cs18_0, w18_0, rfl, rfl, ha18_0⟩
   replace ha1_6 := ha1_6.mono PutR.mono hle18
   replace hr1_33 := hr1_33.mono PieceR.mono hle18
   replace hr1_36 := hr1_36.mono PieceR.mono hle18
   replace ha11_0 := ha11_0.mono PieceR.mono hle18
   replace ha12_0 := ha12_0.mono PieceR.mono hle18
   replace ha13_0 := ha13_0.mono PieceR.mono hle18
   replace ha14_0 := ha14_0.mono PieceR.mono hle18
   replace ha15_0 := ha15_0.mono PieceR.mono hle18
   replace ha16_0 := ha16_0.mono PieceR.mono hle18
   replace ha17_0 := ha17_0.mono PieceR.mono hle18
   have lha18_0 := ha18_0.le
   refine .p .no rfl (.fa rfl f_97_2) rfl rfl rfl <| .p .no rfl (.ixa (j := 1) rfl rfl ae_95 (by decide)) rfl rfl rfl <| .p .no rfl (.ixa (j := 2) rfl rfl ae_94 (by decide)) rfl rfl rfl <| .st (cs' := [_, _, _, _, _, _, _, _, _, _, _, _]) .no rfl rfl rfl rfl ha18_0.any ha18_0.cells s_93 rfl rfl (.tl (.tl (.tl (.tl (.tl (.tl (.tl (.tl (.tl (.tl .hd)))))))))) rfl (allOne_cons ha18_0.one rfl) (.all rfl) <| .nil <| bq_n <| sq_n <| .region rfl <| .p .no rfl (.addL (c := 3) rfl rfl rfl (by decide)) <| .m rfl rfl <| .nil <| sq_n <| .unroll <| .seq <| .region rfl <| .b rfl rfl rfl rfl <| .nil <| sq_n <| .seq <| .condT rfl (by decide) <| .skip <| sq_n <| .seq <| .block <| .seq <| .region rfl <| .m rfl rfl <| .p .no rfl (.ixv (j := 3) rfl rfl ar_94 s_93 (by decide) (partV_s a_93 rfl)) <| .z rfl rfl <| .z rfl rfl <| .nil <| sq_n <| .draw (tb := [r1 0 0, r1 0 0, r1 0 0, r1 4 0, r1 0 0, r1 17 0, r1 63 1, r1 127 1]) rfl (by kernel_rfl) (by kernel_rfl) ?_
   refine .m rfl rfl <| .m rfl rfl <| .m rfl rfl ?_
   obtain ⟨q19, hq19, hF⟩ := bS hF
   refine .call .no rfl rfl rfl rfl rfl (F_slices_Clone_api_Piece_api_Piece_ok d1_31 _ _ hr1_33 _ hq19) ?_
   rintro g19 ml19 r19 hle19 ⟨cs19_0, w19_0, rfl, rfl, ha19_0⟩
   replace ha1_6 := ha1_6.mono PutR.mono hle19
   replace hr1_36 := hr1_36.mono PieceR.mono hle19
   replace ha11_0 := ha11_0.mono PieceR.mono hle19
   replace ha12_0 := ha12_0.mono PieceR.mono hle19
   replace ha13_0 := ha13_0.mono PieceR.mono hle19
   replace ha14_0 := ha14_0.mono PieceR.mono hle19
   replace ha15_0 := ha15_0.mono PieceR.mono hle19
   replace ha16_0 := ha16_0.mono PieceR.mono hle19
   replace ha17_0 := ha17_0.mono PieceR.mono hle19
   replace ha18_0 := ha18_0.mono PieceR.mono hle19
   have lha19_0 := ha19_0.le
   refine .p .no rfl (.fa rfl f_97_2) rfl rfl rfl <| .p .no rfl (.ixa (j := 1) rfl rfl ae_95 (by decide)) rfl rfl rfl <| .p .no rfl (.ixa (j := 3) rfl rfl ae_94 (by decide)) rfl rfl rfl <| .st (cs' := [_, _, _, _, _, _, _, _, _, _, _, _]) .no rfl rfl rfl rfl ha19_0.any ha19_0.cells s_93 rfl rfl (.tl (.tl (.tl (.tl (.tl (.tl (.tl (.tl (.tl (.tl (.tl .hd))))))))))) rfl (allOne_cons ha19_0.one rfl) (.all rfl) <| .nil <| bq_n <| sq_n <| .region rfl <| .p .no rfl (.addL (c := 4) rfl rfl rfl (by decide)) <| .m rfl rfl <| .nil <| sq_n <| .unroll <| .seq <| .region rfl <| .b rfl rfl rfl rfl <| .nil <| sq_n <| .seq <| .condT rfl (by decide) <| .skip <| sq_n <| .seq <| .block <| .seq <| .region rfl <| .m rfl rfl <| .p .no rfl (.ixv (j := 4) rfl rfl ar_94 s_93 (by decide) (partV_s a_93 rfl)) <| .z rfl rfl <| .z rfl rfl <| .nil <| sq_n <| .draw (tb := [r1 0 0, r1 0 0, r1 0 0, r1 4 0, r1 0 0, r1 17 0, r1 63 1, r1 127 1]) rfl (by kernel_rfl) (by kernel_rfl) ?_
   refine .m rfl rfl <| .m rfl rfl <| .m rfl rfl ?_
   obtain ⟨q20, hq20, hF⟩ := bS hF
   refine .call .no rfl rfl rfl rfl rfl (F_slices_Clone_api_Piece_api_Piece_ok d1_34 _ _ hr1_36 _ hq20) ?_
   rintro g20 ml20 r20 hle20 ⟨cs20_0, w20_0, rfl, rfl, ha20_0⟩
   replace ha1_6 := ha1_6.mono PutR.mono hle20
   replace ha11_0 := ha11_0.mono PieceR.mono hle20
   replace ha12_0 := ha12_0.mono PieceR.mono hle20
   replace ha13_0 := ha13_0.mono PieceR.mono hle20
   replace ha14_0 := ha14_0.mono PieceR.mono hle20
   replace ha15_0 := ha15_0.mono PieceR.mono hle20
   replace ha16_0 := ha16_0.mono PieceR.mono hle20
   replace ha17_0 := ha17_0.mono PieceR.mono hle20
   replace ha18_0 := ha18_0.mono PieceR.mono hle20
   replace ha19_0 := ha19_0.mono PieceR.mono hle20
   have lha20_0 := ha20_0.le
   refine .p .no rfl (.fa rfl f_97_2) rfl rfl rfl <| .p .no rfl (.ixa (j := 1) rfl rfl ae_95 (by decide)) rfl rfl rfl <| .p .no rfl (.ixa (j := 4) rfl rfl ae_94 (by decide)) rfl rfl rfl <| .st (cs' := [_, _, _, _, _, _, _, _, _, _, _, _]) .no rfl rfl rfl rfl ha20_0.any ha20_0.cells s_93 rfl rfl (.tl (.tl (.tl (.tl (.tl (.tl (.tl (.tl (.tl (.tl (.tl (.tl .hd)))))))))))) rfl (allOne_cons ha20_0.one rfl) (.all rfl) <| .nil <| bq_n <| sq_n <| .region rfl <| .p .no rfl (.addL (c := 5) rfl rfl rfl (by decide)) <| .m rfl rfl <| .nil <| sq_n <| .unroll <| .seq <| .region rfl <| .b rfl rfl rfl rfl <| .nil <| sq_n <| .seq <| .condF rfl (by decide) <| .exit <| sq_e <| sq_e <| bq_x rfl <| bq_n <| sq_n <| .region rfl <| .p .no rfl (.addL (c := 2) rfl rfl rfl (by decide)) <| .m rfl rfl <| .nil <| sq_n <| .unroll <| .seq <| .region rfl <| .b rfl rfl rfl rfl <| .nil <| sq_n <| .seq <| .condF rfl (by decide) <| .exit <| sq_e <| sq_e <| bq_x rfl <| sq_n <| .seq ?_
   refine .region rfl <| .ld .no rfl (.a (vs := [_, _, _, _, _, _, _, _, _, _, _, _]) rfl (.tl (.tl (.tl (.tl (.tl (.tl (.tl (.tl (.tl (.tl (.tl (.tl .hd)))))))))))) a_97 s_97 rfl rfl) <| .st (cs' := [_, _, _, _, _, _, _, _, _, _, _, _]) .no rfl rfl rfl rfl s_97 rfl rfl (.tl (.tl (.tl (.tl (.tl (.tl (.tl (.tl (.tl (.tl (.tl .hd))))))))))) rfl (allOne_cons rfl (allOne_cons ha1_6.one (allOne_cons ha11_0.one (allOne_cons ha12_0.one (allOne_cons ha13_0.one (allOne_cons ha14_0.one (allOne_cons ha15_0.one (allOne_cons ha16_0.one (allOne_cons ha17_0.one (allOne_cons ha18_0.one (allOne_cons ha19_0.one (allOne_cons ha20_0.one rfl)))))))))))) <| .nil <| sq_n <| .see (seeFreeze PutR.mono (.tl (.tl (.tl (.tl (.tl (.tl (.tl (.tl (.tl (.tl .hd)))))))))) (by decide) ha1_6) ?_
   rintro gz21 ⟨hle21, hz21⟩
   replace ha11_0 := ha11_0.mono PieceR.mono hle21
   replace ha12_0 := ha12_0.mono PieceR.mono hle21
   replace ha13_0 := ha13_0.mono PieceR.mono hle21
   replace ha14_0 := ha14_0.mono PieceR.mono hle21
   replace ha15_0 := ha15_0.mono PieceR.mono hle21
   replace ha16_0 := ha16_0.mono PieceR.mono hle21
   replace ha17_0 := ha17_0.mono PieceR.mono hle21
   replace ha18_0 := ha18_0.mono PieceR.mono hle21
   replace ha19_0 := ha19_0.mono PieceR.mono hle21
   replace ha20_0 := ha20_0.mono PieceR.mono hle21
   refine .see (seeFreeze PieceR.mono (.tl (.tl (.tl (.tl (.tl (.tl (.tl (.tl (.tl .hd))))))))) (by decide) ha11_0) ?_
   rintro gz22 ⟨hle22, hz22⟩
   replace ha12_0 := ha12_0.mono PieceR.mono hle22
   replace ha13_0 := ha13_0.mono PieceR.mono hle22
   replace ha14_0 := ha14_0.mono PieceR.mono hle22
   replace ha15_0 := ha15_0.mono PieceR.mono hle22
   replace ha16_0 := ha16_0.mono PieceR.mono hle22
   replace ha17_0 := ha17_0.mono PieceR.mono hle22
   replace ha18_0 := ha18_0.mono PieceR.mono hle22
   replace ha19_0 := ha19_0.mono PieceR.mono hle22
   replace ha20_0 := ha20_0.mono PieceR.mono hle22
   replace hz21 := hz21.mono PutR.mono hle22
   refine .see (seeFreeze PieceR.mono (.tl (.tl (.tl (.tl (.tl (.tl (.tl (.tl .hd)))))))) (by decide) ha12_0) ?_
   rintro gz23 ⟨hle23, hz23⟩
   replace ha13_0 := ha13_0.mono PieceR.mono hle23
   replace ha14_0 := ha14_0.mono PieceR.mono hle23
   replace ha15_0 := ha15_0.mono PieceR.mono hle23
   replace ha16_0 := ha16_0.mono PieceR.mono hle23
   replace ha17_0 := ha17_0.mono PieceR.mono hle23
   replace ha18_0 := ha18_0.mono PieceR.mono hle23
   replace ha19_0 := ha19_0.mono PieceR.mono hle23
   replace ha20_0 := ha20_0.mono PieceR.mono hle23
   replace hz21 := hz21.mono PutR.mono hle23
   replace hz22 := hz22.mono PieceR.mono hle23
   refine .see (seeFreeze PieceR.mono (.tl (.tl (.tl (.tl (.tl (.tl (.tl .hd))))))) (by decide) ha13_0) ?_
   rintro gz24 ⟨hle24, hz24⟩
   replace ha14_0 := ha14_0.mono PieceR.mono hle24
   replace ha15_0 := ha15_0.mono PieceR.mono hle24
   replace ha16_0 := ha16_0.mono PieceR.mono hle24
   replace ha17_0 := ha17_0.mono PieceR.mono hle24
   replace ha18_0 := ha18_0.mono PieceR.mono hle24
   replace ha19_0 := ha19_0.mono PieceR.mono hle24
   replace ha20_0 := ha20_0.mono PieceR.mono hle24
   replace hz21 := hz21.mono PutR.mono hle24
   replace hz22 := hz22.mono PieceR.mono hle24
   replace hz23 := hz23.mono PieceR.mono hle24
   refine .see (seeFreeze PieceR.mono (.tl (.tl (.tl (.tl (.tl (.tl .hd)))))) (by decide) ha14_0) ?_
   rintro gz25 ⟨hle25, hz25⟩
   replace ha15_0 := ha15_0.mono PieceR.mono hle25
   replace ha16_0 := ha16_0.mono PieceR.mono hle25
   replace ha17_0 := ha17_0.mono PieceR.mono hle25
   replace ha18_0 := ha18_0.mono PieceR.mono hle25
   replace ha19_0 := ha19_0.mono PieceR.mono hle25
   replace ha20_0 := ha20_0.mono PieceR.mono hle25
   replace hz21 := hz21.mono PutR.mono hle25
   replace hz22 := hz22.mono PieceR.mono hle25
   replace hz23 := hz23.mono PieceR.mono hle25
   replace hz24 := hz24.mono PieceR.mono hle25
   refine .see (seeFreeze PieceR.mono (.tl (.tl (.tl (.tl (.tl .hd))))) (by decide) ha15_0) ?_
   rintro gz26 ⟨hle26, hz26⟩
   replace ha16_0 := ha16_0.mono PieceR.mono hle26
   replace ha17_0 := ha17_0.mono PieceR.mono hle26
   replace ha18_0 := ha18_0.mono PieceR.mono hle26
   replace ha19_0 := ha19_0.mono PieceR.mono hle26
   replace ha20_0 := ha20_0.mono PieceR.mono hle26
   replace hz21 := hz21.mono PutR.mono hle26
   replace hz22 := hz22.mono PieceR.mono hle26
   replace hz23 := hz23.mono PieceR.mono hle26
   replace hz24 := hz24.mono PieceR.mono hle26
   replace hz25 := hz25.mono PieceR.mono hle26
   refine .see (seeFreeze PieceR.mono (.tl (.tl (.tl (.tl .hd)))) (by decide) ha16_0) ?_
   rintro gz27 ⟨hle27, hz27⟩
   replace ha17_0 := ha17_0.mono PieceR.mono hle27
   replace ha18_0 := ha18_0.mono PieceR.mono hle27
   replace ha19_0 := ha19_0.mono PieceR.mono hle27
   replace ha20_0 := ha20_0.mono PieceR.mono hle27
   replace hz21 := hz21.mono PutR.mono hle27
   replace hz22 := hz22.mono PieceR.mono hle27
   replace hz23 := hz23.mono PieceR.mono hle27
   replace hz24 := hz24.mono PieceR.mono hle27
   replace hz25 := hz25.mono PieceR.mono hle27
   replace hz26 := hz26.mono PieceR.mono hle27
   refine .see (seeFreeze PieceR.mono (.tl (.tl (.tl .hd))) (by decide) ha17_0) ?_
   rintro gz28 ⟨hle28, hz28⟩
   replace ha18_0 := ha18_0.mono PieceR.mono hle28
   replace ha19_0 := ha19_0.mono PieceR.mono hle28
   replace ha20_0 := ha20_0.mono PieceR.mono hle28
   replace hz21 := hz21.mono PutR.mono hle28
   replace hz22 := hz22.mono PieceR.mono hle28
   replace hz23 := hz23.mono PieceR.mono hle28
   replace hz24 := hz24.mono PieceR.mono hle28
   replace hz25 := hz25.mono PieceR.mono hle28
   replace hz26 := hz26.mono PieceR.mono hle28
   replace hz27 := hz27.mono PieceR.mono hle28
   refine .see (seeFreeze PieceR.mono (.tl (.tl .hd)) (by decide) ha18_0) ?_
   rintro gz29 ⟨hle29, hz29⟩
   replace ha19_0 := ha19_0.mono PieceR.mono hle29
   replace ha20_0 := ha20_0.mono PieceR.mono hle29
   replace hz21 := hz21.mono PutR.mono hle29
   replace hz22 := hz22.mono PieceR.mono hle29
   replace hz23 := hz23.mono PieceR.mono hle29
   replace hz24 := hz24.mono PieceR.mono hle29
   replace hz25 := hz25.mono PieceR.mono hle29
   replace hz26 := hz26.mono PieceR.mono hle29
   replace hz27 := hz27.mono PieceR.mono hle29
   replace hz28 := hz28.mono PieceR.mono hle29
   refine .see (seeFreeze PieceR.mono (.tl .hd) (by decide) ha19_0) ?_
   rintro gz30 ⟨hle30, hz30⟩
   replace ha20_0 := ha20_0.mono PieceR.mono hle30
   replace hz21 := hz21.mono PutR.mono hle30
   replace hz22 := hz22.mono PieceR.mono hle30
   replace hz23 := hz23.mono PieceR.mono hle30
   replace hz24 := hz24.mono PieceR.mono hle30
   replace hz25 := hz25.mono PieceR.mono hle30
   replace hz26 := hz26.mono PieceR.mono hle30
   replace hz27 := hz27.mono PieceR.mono hle30
   replace hz28 := hz28.mono PieceR.mono hle30
   replace hz29 := hz29.mono PieceR.mono hle30
   refine .see (seeFreeze PieceR.mono .hd (by decide) ha20_0) ?_
   rintro gz31 ⟨hle31, hz31⟩
   replace hz21 := hz21.mono PutR.mono hle31
   replace hz22 := hz22.mono PieceR.mono hle31
   replace hz23 := hz23.mono PieceR.mono hle31
   replace hz24 := hz24.mono PieceR.mono hle31
   replace hz25 := hz25.mono PieceR.mono hle31
   replace hz26 := hz26.mono PieceR.mono hle31
   replace hz27 := hz27.mono PieceR.mono hle31
   replace hz28 := hz28.mono PieceR.mono hle31
   replace hz29 := hz29.mono PieceR.mono hle31
   replace hz30 := hz30.mono PieceR.mono hle31
   refine .ret ?_
   obtain rfl := sI hF
   refine retQ_r ((((((((((((((((((((((hle3.trans hlo1).trans hle11).trans hle12).trans hle13).trans hle14).trans hle15).trans hle16).trans hle17).trans hle18).trans hle19).trans hle20).trans hle21).trans hle22).trans hle23).trans hle24).trans hle25).trans hle26).trans hle27).trans hle28).trans hle29).trans hle30).trans hle31) (.cell (.a (vs := [_, _, _, _, _, _, _, _, _, _, _, _]) rfl .hd a_97 s_97 rfl rfl) .nil) rfl ?_
   exact ⟨_, rfl, (VersionR.of hz21 hz22 hz23 hz24 hz25 hz26 hz27 hz28 hz29 hz30 hz31)⟩
structure L_code_Amend_1 where
  k1_1 : Nat
  s1_2 : List UInt8
  v1_4 : V
  cs1_5 : List V
  d1_3 : List Version
def F_code_Amend_l1 (p1 : Version) (q12 : (List Version)) : Nat → Nat → List UInt8 → List Version → Option ((List UInt8 × List Version))
  | 0, k1_1, s1_2, d1_3 => some ((s1_2, d1_3))
  | mm1 + 1, k1_1, s1_2, d1_3 => ((atI (q12 ++ [p1]) (k1_1 : Int)).bind fun y17 => ((F_code_copied y17).bind fun q19 => (ck (decide (d1_3.length + 1 ≤ 1000000)) (F_code_Amend_l1 p1 q12 mm1 (k1_1 + 1) s1_2 (d1_3 ++ [q19])))))
structure L_code_Amend_2 where
  k2_1 : Nat
  s2_2 : List UInt8
  v2_4 : V
  cs2_5 : List V
  d2_3 : List Version
def F_code_Amend_l2 (p1 : Version) (q28 : (List Version)) : Nat → Nat → List UInt8 → List Version → Option ((List UInt8 × List Version))
  | 0, k2_1, s2_2, d2_3 => some ((s2_2, d2_3))
  | mm2 + 1, k2_1, s2_2, d2_3 => ((atI (q28 ++ [p1]) (k2_1 : Int)).bind fun y33 => ((F_code_copied y33).bind fun q35 => (ck (decide (d2_3.length + 1 ≤ 1000000)) (F_code_Amend_l2 p1 q28 mm2 (k2_1 + 1) s2_2 (d2_3 ++ [q35])))))
def F_code_Amend (p0 : Code) (p1 : Version) : Option (Code × Int) := ((F_code_of p0).bind fun q4 => (cond (!(decide (q4.e_ = 0))) (some ((Code.mk [] []), q4.e_)) ((cond (!(Version.ok p1)) (((F_code_question_fail q4 true 42).bind fun q8 => ((F_code_question_fail q8 (decide ((p0.vs.length : Int) = 12)) 2).bind fun q9 => (cond (!(decide (q9.e_ = 0))) (some ((Code.mk [] []), q9.e_)) (((F_slices_Clone_api_Version_api_Version p0.vs).bind fun q12 => (ck (decide (q12.length + 1 ≤ 1000000)) (((F_code_Amend_l1 p1 q12 ((((q12 ++ [p1]).length : Int) - (0 : Int)).toNat) 0 p0.name []).bind fun ⟨o1_0_1, o1_0_2⟩ => some ((Code.mk o1_0_1 o1_0_2), 0)))))))))) (((atI p0.vs ((p0.vs.length : Int) - 1)).bind fun y23 => ((F_code_question_fail q4 (decide (p1.fr ≤ y23.fr)) 42).bind fun q24 => ((F_code_question_fail q24 (decide ((p0.vs.length : Int) = 12)) 2).bind fun q25 => (cond (!(decide (q25.e_ = 0))) (some ((Code.mk [] []), q25.e_)) (((F_slices_Clone_api_Version_api_Version p0.vs).bind fun q28 => (ck (decide (q28.length + 1 ≤ 1000000)) (((F_code_Amend_l2 p1 q28 ((((q28 ++ [p1]).length : Int) - (0 : Int)).toNat) 0 p0.name []).bind fun ⟨o2_0_1, o2_0_2⟩ => some ((Code.mk o2_0_1 o2_0_2), 0)))))))))))))))
set_option maxHeartbeats 1000000 in
theorem F_code_Amend_ok (p0 : Code) (p1 : Version) (cs0 cs1 : List V) (g : G) (h0 : CodeR g cs0 p0) (h1 : VersionR g cs1 p1) (r : Code × Int) (hF : F_code_Amend p0 p1 = some r) : Fw Tryz.prog natS (.f 57 [] []) [.agg cs0, .agg cs1] g [] fun g' ml' q => ml' = [] ∧ ∃ (ds0 : List V), q = (.tup [.agg ds0, .i .i64 r.2]) ∧ CodeR g' ds0 r.1 := by
  refine Fw.drop ?_
  unfold F_code_Amend at hF
  obtain ⟨vq0, rfl, hcq0⟩ := h0
  have lh0_1 := hcq0.1
  obtain ⟨pq1, lvq1, rfl, hpq1, hlq1⟩ := h1
  have lh1_1 := hpq1.1
  have lh1_2 := (hlq1 0 (by decide)).1
  have lh1_3 := (hlq1 1 (by decide)).1
  have lh1_4 := (hlq1 2 (by decide)).1
  have lh1_5 := (hlq1 3 (by decide)).1
  have lh1_6 := (hlq1 4 (by decide)).1
  have lh1_7 := (hlq1 5 (by decide)).1
  have lh1_8 := (hlq1 6 (by decide)).1
  have lh1_9 := (hlq1 7 (by decide)).1
  have lh1_10 := (hlq1 8 (by decide)).1
  have lh1_11 := (hlq1 9 (by decide)).1
  refine Fw.enter (N := 78) (al := [(1, _), (0, _)]) Tryz.func57 (by kernel_rfl) (by kernel_rfl) rfl rfl rfl rfl ?_
  intro B
  refine .seq <| .region rfl <| .box .no rfl rfl rfl rfl fun b1 => .box .no rfl rfl rfl rfl fun b2 => .alloc .no rfl z_24 fun b3 => .z rfl rfl <| .nil <| sq_n <| .seq <| .region rfl <| .ld .no rfl (.a (vs := [_, _]) rfl (.tl (.tl .hd)) a_24 s_24 rfl rfl) ?_
  obtain ⟨q4, hq4, hF⟩ := bS hF
  refine .call .no rfl rfl rfl (F_code_of_ok p0 _ _ ⟨_, rfl, hcq0⟩ _ hq4) ?_
  rintro g4 ml4 r4 hle4 ⟨b4_0, cs4_0, rfl, rfl, ⟨v1_4_0, v3_4_0, v4_4_0, v5_4_0, v6_4_0, v7_4_0, v8_4_0, v9_4_0, v10_4_0, v11_4_0, v12_4_0, v13_4_0, rfl, h1_4_0, h3_4_0, h4_4_0, h5_4_0, h6_4_0, h7_4_0, h8_4_0, h9_4_0, h10_4_0, h11_4_0, h12_4_0, h13_4_0⟩⟩
  replace hcq0 := hcq0.mono VersionR.mono hle4
  replace hpq1 := hpq1.mono PutR.mono hle4
  replace hlq1 := fun k hk => (hlq1 k hk).mono PieceR.mono hle4
  have lh4_0_1 := h1_4_0.1
  have lh4_0_3 := h3_4_0.1
  have lh4_0_4 := h4_4_0.1
  have lh4_0_5 := h5_4_0.1
  have lh4_0_6 := h6_4_0.1
  have lh4_0_7 := h7_4_0.1
  have lh4_0_8 := h8_4_0.1
  have lh4_0_9 := h9_4_0.1
  have lh4_0_10 := h10_4_0.1
  have lh4_0_11 := h11_4_0.1
  have lh4_0_12 := h12_4_0.1
  have lh4_0_13 := h13_4_0.1
  refine .z rfl rfl <| .nil <| sq_n <| .seq <| .seq <| .region rfl <| .m rfl rfl <| .p .no rfl (.nil rfl) <| .p .no rfl (.fa rfl f_132_3) <| .ld .no rfl (.s rfl .hd a_30 rfl) <| .b rfl rfl rfl rfl <| .nil <| sq_n <| .cond rfl (fun h5 => ?_) (fun h5 => ?_)
  ·have kh5 := dF (nT h5)
   have hF := cT h5 hF
   refine .seq <| .draw (tb := [r0 0 0, r1 0 0, r1 2 0, r1 6 0, r1 14 0, r0 1 0, r1 63 1]) rfl (by kernel_rfl) (by kernel_rfl) ?_
   refine .p .no rfl (.build (qs := []) (cs := [_, _]) rfl b_24 rfl) rfl rfl rfl <| .m rfl rfl <| .p .no rfl (.nil rfl) rfl rfl rfl <| .p .no rfl (.fa rfl f_132_3) rfl rfl rfl <| .y rfl rfl rfl (.s rfl .hd a_30 rfl) <| .st (cs' := [_, _]) .no rfl rfl rfl rfl rfl rfl s_24 rfl rfl (.tl .hd) rfl rfl (FrL.cN (fun _ s => s.neb (.tl .hd) .hd) FrL.n) <| .z rfl rfl <| .nil <| sq_n <| .ret <| sq_r ?_
   obtain rfl := sI hF
   refine retQ_r hle4 (.cell (.a (vs := [_, _]) rfl (.tl .hd) a_24 s_24 rfl rfl) (.tmp rfl .nil)) rfl ?_
   exact ⟨_, rfl, ⟨_, rfl, RS.nil⟩⟩
  ·have kh5 := dT (nF h5)
   have hF := cF h5 hF
   refine .skip <| sq_n <| .seq <| .region rfl <| .p .no rfl (.fa rfl f_24_1) <| .ld .no rfl (.s rfl (.tl (.tl (.tl .hd))) a_22 rfl) <| .p .no rfl (.lenR rfl rfl rfl e_22 hcq0) <| .z rfl rfl <| .nil <| sq_n <| .seq <| .seq <| .draw (tb := [r0 0 0, r1 0 0, r1 2 0, r1 6 1, r1 14 1, r0 30 1, r0 62 1, r0 30 1, r0 158 1, r0 30 1, r0 542 1, r0 1950 1, r0 3998 1, r0 8094 1, r1 16382 1, r1 32766 1, r1 65535 1, r0 0 0, r0 131072 0, r1 524287 2, r1 1048575 3, r1 2097151 3, r1 4194303 3, r1 8388607 3]) rfl (by kernel_rfl) (by kernel_rfl) ?_
   refine .m rfl rfl <| .y rfl rfl rfl (.a (vs := [_, _, _, _, _, _, _, _, _, _, _, _]) rfl (.tl (.tl .hd)) a_97 s_97 rfl rfl) <| .callV .no rfl rfl rfl rfl rfl (isVersion_ok _ _ _ ⟨_, _, rfl, hpq1, hlq1⟩) <| .p .no rfl (.not rfl) rfl rfl rfl <| .m rfl rfl <| .split (t := 30) rfl (fun h7 => ?_) (fun h7 => ?_)
   ·have kh7 := (nT h7)
    have hF := cT h7 hF
    refine .skip (.yes rfl rfl h7) rfl rfl <| .skip (.yes rfl rfl h7) rfl rfl <| .skip (.yes rfl rfl h7) rfl rfl <| .skip (.yes rfl rfl h7) rfl rfl <| .skip (.yes rfl rfl h7) rfl rfl <| .skip (.yes rfl rfl h7) rfl rfl <| .skip (.yes rfl rfl h7) rfl rfl <| .skip (.yes rfl rfl h7) rfl rfl <| .skip (.yes rfl rfl h7) rfl rfl <| .skip (.yes rfl rfl h7) rfl rfl <| .p .no rfl (.pickT rfl h7 rfl) rfl rfl rfl ?_
    obtain ⟨q8, hq8, hF⟩ := bS hF
    refine .callT .no rfl rfl rfl rfl rfl rfl .hd (F_code_question_fail_ok q4 true 42 _ _ _ ⟨_, _, _, _, _, _, _, _, _, _, _, _, rfl, h1_4_0, h3_4_0, h4_4_0, h5_4_0, h6_4_0, h7_4_0, h8_4_0, h9_4_0, h10_4_0, h11_4_0, h12_4_0, h13_4_0⟩ _ hq8) ?_
    rintro g8 ml8 r8 hle8 ⟨cs8_0, rfl, rfl, ⟨v1_8_0, v3_8_0, v4_8_0, v5_8_0, v6_8_0, v7_8_0, v8_8_0, v9_8_0, v10_8_0, v11_8_0, v12_8_0, v13_8_0, rfl, h1_8_0, h3_8_0, h4_8_0, h5_8_0, h6_8_0, h7_8_0, h8_8_0, h9_8_0, h10_8_0, h11_8_0, h12_8_0, h13_8_0⟩⟩
    replace hcq0 := hcq0.mono VersionR.mono hle8
    replace hpq1 := hpq1.mono PutR.mono hle8
    replace hlq1 := fun k hk => (hlq1 k hk).mono PieceR.mono hle8
    replace h1_4_0 := h1_4_0.mono VersionR.mono hle8
    replace h3_4_0 := h3_4_0.mono PutR.mono hle8
    replace h4_4_0 := h4_4_0.mono PieceR.mono hle8
    replace h5_4_0 := h5_4_0.mono PieceR.mono hle8
    replace h6_4_0 := h6_4_0.mono PieceR.mono hle8
    replace h7_4_0 := h7_4_0.mono PieceR.mono hle8
    replace h8_4_0 := h8_4_0.mono PieceR.mono hle8
    replace h9_4_0 := h9_4_0.mono PieceR.mono hle8
    replace h10_4_0 := h10_4_0.mono PieceR.mono hle8
    replace h11_4_0 := h11_4_0.mono PieceR.mono hle8
    replace h12_4_0 := h12_4_0.mono PieceR.mono hle8
    replace h13_4_0 := h13_4_0.mono PieceR.mono hle8
    have lh8_0_1 := h1_8_0.1
    have lh8_0_3 := h3_8_0.1
    have lh8_0_4 := h4_8_0.1
    have lh8_0_5 := h5_8_0.1
    have lh8_0_6 := h6_8_0.1
    have lh8_0_7 := h7_8_0.1
    have lh8_0_8 := h8_8_0.1
    have lh8_0_9 := h9_8_0.1
    have lh8_0_10 := h10_8_0.1
    have lh8_0_11 := h11_8_0.1
    have lh8_0_12 := h12_8_0.1
    have lh8_0_13 := h13_8_0.1
    refine .m rfl rfl <| .b rfl rfl rfl rfl ?_
    obtain ⟨q9, hq9, hF⟩ := bS hF
    refine .callT .no rfl rfl rfl rfl rfl rfl .hd (F_code_question_fail_ok q8 (decide ((p0.vs.length : Int) = 12)) 2 _ _ _ ⟨_, _, _, _, _, _, _, _, _, _, _, _, rfl, h1_8_0, h3_8_0, h4_8_0, h5_8_0, h6_8_0, h7_8_0, h8_8_0, h9_8_0, h10_8_0, h11_8_0, h12_8_0, h13_8_0⟩ _ hq9) ?_
    rintro g9 ml9 r9 hle9 ⟨cs9_0, rfl, rfl, ⟨v1_9_0, v3_9_0, v4_9_0, v5_9_0, v6_9_0, v7_9_0, v8_9_0, v9_9_0, v10_9_0, v11_9_0, v12_9_0, v13_9_0, rfl, h1_9_0, h3_9_0, h4_9_0, h5_9_0, h6_9_0, h7_9_0, h8_9_0, h9_9_0, h10_9_0, h11_9_0, h12_9_0, h13_9_0⟩⟩
    replace hcq0 := hcq0.mono VersionR.mono hle9
    replace hpq1 := hpq1.mono PutR.mono hle9
    replace hlq1 := fun k hk => (hlq1 k hk).mono PieceR.mono hle9
    replace h1_4_0 := h1_4_0.mono VersionR.mono hle9
    replace h3_4_0 := h3_4_0.mono PutR.mono hle9
    replace h4_4_0 := h4_4_0.mono PieceR.mono hle9
    replace h5_4_0 := h5_4_0.mono PieceR.mono hle9
    replace h6_4_0 := h6_4_0.mono PieceR.mono hle9
    replace h7_4_0 := h7_4_0.mono PieceR.mono hle9
    replace h8_4_0 := h8_4_0.mono PieceR.mono hle9
    replace h9_4_0 := h9_4_0.mono PieceR.mono hle9
    replace h10_4_0 := h10_4_0.mono PieceR.mono hle9
    replace h11_4_0 := h11_4_0.mono PieceR.mono hle9
    replace h12_4_0 := h12_4_0.mono PieceR.mono hle9
    replace h13_4_0 := h13_4_0.mono PieceR.mono hle9
    have lh9_0_1 := h1_9_0.1
    have lh9_0_3 := h3_9_0.1
    have lh9_0_4 := h4_9_0.1
    have lh9_0_5 := h5_9_0.1
    have lh9_0_6 := h6_9_0.1
    have lh9_0_7 := h7_9_0.1
    have lh9_0_8 := h8_9_0.1
    have lh9_0_9 := h9_9_0.1
    have lh9_0_10 := h10_9_0.1
    have lh9_0_11 := h11_9_0.1
    have lh9_0_12 := h12_9_0.1
    have lh9_0_13 := h13_9_0.1
    refine .p .no rfl (.nil rfl) rfl rfl rfl <| .p .no rfl (.fa rfl f_132_3) rfl rfl rfl <| .y rfl rfl rfl (.s rfl .hd a_30 rfl) <| .b rfl rfl rfl rfl <| .nil <| sq_n <| .cond rfl (fun h10 => ?_) (fun h10 => ?_)
    ·have kh10 := dF (nT h10)
     have hF := cT h10 hF
     refine .seq <| .draw (tb := [r0 0 0, r1 0 0, r1 2 0, r1 6 0, r1 14 0, r0 1 0, r1 63 1]) rfl (by kernel_rfl) (by kernel_rfl) ?_
     refine .p .no rfl (.build (qs := []) (cs := [_, _]) rfl b_24 rfl) rfl rfl rfl <| .m rfl rfl <| .p .no rfl (.nil rfl) rfl rfl rfl <| .p .no rfl (.fa rfl f_132_3) rfl rfl rfl <| .y rfl rfl rfl (.s rfl .hd a_30 rfl) <| .st (cs' := [_, _]) .no rfl rfl rfl rfl rfl rfl s_24 rfl rfl (.tl .hd) rfl rfl (FrL.cN (fun _ s => s.neb (.tl .hd) .hd) FrL.n) <| .z rfl rfl <| .nil <| sq_n <| .ret <| sq_r ?_
     obtain rfl := sI hF
     refine retQ_r ((hle4.trans hle8).trans hle9) (.cell (.a (vs := [_, _]) rfl (.tl .hd) a_24 s_24 rfl rfl) (.tmp rfl .nil)) rfl ?_
     exact ⟨_, rfl, ⟨_, rfl, RS.nil⟩⟩
    ·have kh10 := dT (nF h10)
     have hF := cF h10 hF
     refine .skip <| sq_n <| .seq <| .region rfl <| .p .no rfl (.fa rfl f_24_0) <| .ld .no rfl (.s rfl (.tl (.tl (.tl .hd))) a_9 rfl) <| .p .no rfl (.build (qs := [(0, _)]) (cs := [_, _]) rfl b_24 rfl) <| .alloc .no rfl z_24 fun b11 => .st (cs' := [_, _]) .no rfl rfl rfl rfl s_24 rfl rfl .hd rfl rfl <| .nil <| sq_n <| .seq <| .seq <| .draw (tb := [r0 0 0, r0 1 0, r0 3 0, r0 0 0, r0 8 0, r1 31 1, r1 63 2, r0 0 0]) rfl (by kernel_rfl) (by kernel_rfl) ?_
     refine .p .no rfl (.fa rfl f_24_1) rfl rfl rfl <| .y rfl rfl rfl (.s rfl (.tl (.tl (.tl (.tl .hd)))) a_22 rfl) ?_
     obtain ⟨q12, hq12, hF⟩ := bS hF
     refine .call .no rfl rfl rfl rfl rfl (F_slices_Clone_api_Version_api_Version_ok p0.vs _ _ hcq0 _ hq12) ?_
     rintro g12 ml12 r12 hle12 ⟨cs12_0, w12_0, rfl, rfl, ha12_0⟩
     replace hcq0 := hcq0.mono VersionR.mono hle12
     replace hpq1 := hpq1.mono PutR.mono hle12
     replace hlq1 := fun k hk => (hlq1 k hk).mono PieceR.mono hle12
     replace h1_4_0 := h1_4_0.mono VersionR.mono hle12
     replace h3_4_0 := h3_4_0.mono PutR.mono hle12
     replace h4_4_0 := h4_4_0.mono PieceR.mono hle12
     replace h5_4_0 := h5_4_0.mono PieceR.mono hle12
     replace h6_4_0 := h6_4_0.mono PieceR.mono hle12
     replace h7_4_0 := h7_4_0.mono PieceR.mono hle12
     replace h8_4_0 := h8_4_0.mono PieceR.mono hle12
     replace h9_4_0 := h9_4_0.mono PieceR.mono hle12
     replace h10_4_0 := h10_4_0.mono PieceR.mono hle12
     replace h11_4_0 := h11_4_0.mono PieceR.mono hle12
     replace h12_4_0 := h12_4_0.mono PieceR.mono hle12
     replace h13_4_0 := h13_4_0.mono PieceR.mono hle12
     have lha12_0 := ha12_0.le
     refine .ld (k := 1) .no rfl rfl rfl trivial (.a (vs := [_, _, _, _, _, _, _, _, _, _, _, _]) rfl (.tl (.tl (.tl .hd))) a_97 s_97 rfl rfl) <| .f .no rfl (.bs (qs := [(0, _)]) (c := [_, _, _, _, _, _, _, _, _, _, _, _]) rfl sl_22 el_97 (by decide) rfl) fun b13 => ?_
     obtain ⟨hl14, hF⟩ := ckS hF
     have hl14 := of_decide_eq_true hl14
     refine .ne .hd (.tl (.tl (.tl .hd))) fun hn14_b2 => .ne .hd (.tl (.tl (.tl (.tl .hd)))) fun hn14_b1 => .x .no rfl rfl (pinF_t rfl pinF_n) (restA_t rfl restA_n) (mo_app rfl) (fun _ _ => .all (allA_c rfl (allA_c rfl rfl))) (.appA (m := 1) (new := [_, _, _, _, _, _, _, _, _, _, _, _]) rfl rfl rfl (.tl .hd) sl_22 el_97 (.of rfl .sl sl_22 .hd (Nat.le_of_ble_eq_true rfl) rfl) (by decide) rfl (AccR.room (R := VersionR) (ys := [p1]) ha12_0 (Ls.cons (c := [_, _, _, _, _, _, _, _, _, _, _, _]) rfl (VersionR.of hpq1 (hlq1 0 (by decide)) (hlq1 1 (by decide)) (hlq1 2 (by decide)) (hlq1 3 (by decide)) (hlq1 4 (by decide)) (hlq1 5 (by decide)) (hlq1 6 (by decide)) (hlq1 7 (by decide)) (hlq1 8 (by decide)) (hlq1 9 (by decide))) .nil) hl14) (allOne_cons rfl (allOne_cons hpq1.one (allOne_cons (hlq1 0 (by decide)).one (allOne_cons (hlq1 1 (by decide)).one (allOne_cons (hlq1 2 (by decide)).one (allOne_cons (hlq1 3 (by decide)).one (allOne_cons (hlq1 4 (by decide)).one (allOne_cons (hlq1 5 (by decide)).one (allOne_cons (hlq1 6 (by decide)).one (allOne_cons (hlq1 7 (by decide)).one (allOne_cons (hlq1 8 (by decide)).one (allOne_cons (hlq1 9 (by decide)).one rfl))))))))))))) fun v14 => .as (.tl .hd) fun av14 => ?_
     have ha14 := AccR.app (R := VersionR) (g := g12) (ys := [p1]) ha12_0 (Ls.cons (c := [_, _, _, _, _, _, _, _, _, _, _, _]) rfl (VersionR.of hpq1 (hlq1 0 (by decide)) (hlq1 1 (by decide)) (hlq1 2 (by decide)) (hlq1 3 (by decide)) (hlq1 4 (by decide)) (hlq1 5 (by decide)) (hlq1 6 (by decide)) (hlq1 7 (by decide)) (hlq1 8 (by decide)) (hlq1 9 (by decide))) .nil) hl14 av14
     have lha14 := ha14.le
     refine .p .no rfl (.lenA rfl rfl rfl e_22 (by decide) ha14) rfl rfl rfl <| .m rfl rfl <| .nil <| sq_n <| .block <| .acc 12 97 ?_
     obtain ⟨o1, hF, hG1⟩ := bS hF
     refine .loopx (α := L_code_Amend_1) [(4, _), (8, _), (63, _), (64, _)] [_, _, _, _, _, _] (fun fx x => (65, .i .i64 (x.k1_1 : Int)) :: fx) (fun mx x => [.acc x.v1_4 12 x.cs1_5 97, rg mx 0, rg mx 1, .blk b11 (.cells [.s x.s1_2, x.v1_4] 24), rg mx 2, rg mx 3, rg mx 4, rg mx 5]) (fun x g' => AccR VersionR 12 g' x.v1_4 x.cs1_5 x.d1_3 ∧ F_code_Amend_l1 p1 q12 ((((q12 ++ [p1]).length : Int) - (x.k1_1 : Int)).toNat) x.k1_1 x.s1_2 x.d1_3 = some o1) (fun x => (((q12 ++ [p1]).length : Int) - (x.k1_1 : Int)).toNat) (L_code_Amend_1.mk 0 p0.name _ _ []) ⟨rfl, rfl, rfl, rfl, rfl, trivial⟩ (List.Sublist.refl _) ⟨AccR.nil, hF⟩ ?_
     intro x1 gl1 hlo1 hJ1
     obtain ⟨k1_1, s1_2, v1_4, cs1_5, d1_3⟩ := x1
     try dsimp only at hJ1
     obtain ⟨ha1_6, hF⟩ := hJ1
     refine .al0 [(65, .i .i64 (k1_1 : Int)), (4, _), (8, _), (63, _), (64, _)] ?_
     replace hcq0 := hcq0.mono VersionR.mono hlo1
     replace hpq1 := hpq1.mono PutR.mono hlo1
     replace hlq1 := fun k hk => (hlq1 k hk).mono PieceR.mono hlo1
     replace h1_4_0 := h1_4_0.mono VersionR.mono hlo1
     replace h3_4_0 := h3_4_0.mono PutR.mono hlo1
     replace h4_4_0 := h4_4_0.mono PieceR.mono hlo1
     replace h5_4_0 := h5_4_0.mono PieceR.mono hlo1
     replace h6_4_0 := h6_4_0.mono PieceR.mono hlo1
     replace h7_4_0 := h7_4_0.mono PieceR.mono hlo1
     replace h8_4_0 := h8_4_0.mono PieceR.mono hlo1
     replace h9_4_0 := h9_4_0.mono PieceR.mono hlo1
     replace h10_4_0 := h10_4_0.mono PieceR.mono hlo1
     replace h11_4_0 := h11_4_0.mono PieceR.mono hlo1
     replace h12_4_0 := h12_4_0.mono PieceR.mono hlo1
     replace h13_4_0 := h13_4_0.mono PieceR.mono hlo1
     replace ha14 := ha14.mono VersionR.mono hlo1
     have lha1_6 := ha1_6.le
     refine .seq <| .region rfl <| .b rfl rfl rfl rfl <| .nil <| sq_n <| .seq <| .cond rfl (fun h16 => ?_) (fun h16 => ?_)
     ·have kh16 := dT h16
      have em1 : (((q12 ++ [p1]).length : Int) - (k1_1 : Int)).toNat = (((q12 ++ [p1]).length : Int) - ((k1_1 + 1 : Nat) : Int)).toNat + 1 := by omega
      rw [em1, F_code_Amend_l1] at hF
      refine .skip <| sq_n <| .seq <| .block <| .seq <| .region rfl ?_
      obtain ⟨y17, hy17, hF⟩ := bS hF
      have hj17 := atI_lt hy17
      have hy17 := atI_get hy17
      refine .ixA .no rfl rfl ha14 rfl e_22 (by decide) hj17.1 hy17 ?_
      intro b17 n17 cs17 hv17 hc17 hd17 hr17
      obtain ⟨p17, lv17, rfl, hp17, hl17⟩ := hr17
      have lh17_1 := hp17.1
      have lh17_2 := (hl17 0 (by decide)).1
      have lh17_3 := (hl17 1 (by decide)).1
      have lh17_4 := (hl17 2 (by decide)).1
      have lh17_5 := (hl17 3 (by decide)).1
      have lh17_6 := (hl17 4 (by decide)).1
      have lh17_7 := (hl17 5 (by decide)).1
      have lh17_8 := (hl17 6 (by decide)).1
      have lh17_9 := (hl17 7 (by decide)).1
      have lh17_10 := (hl17 8 (by decide)).1
      have lh17_11 := (hl17 9 (by decide)).1
      refine .ld .no rfl (.aa 0 (vs := [_, _, _, _, _, _, _, _, _, _, _, _]) rfl (.tl (.tl (.acc hv17 rfl))) rfl hd17 hc17 (AccR.cellsLe ha14 hy17) a_97 s_97 rfl rfl) <| .alloc .no rfl z_97 fun b18 => .st (cs' := [_, _, _, _, _, _, _, _, _, _, _, _]) .no rfl rfl rfl rfl s_97 rfl rfl .hd rfl (allOne_cons rfl (allOne_cons hp17.one (allOne_cons (hl17 0 (by decide)).one (allOne_cons (hl17 1 (by decide)).one (allOne_cons (hl17 2 (by decide)).one (allOne_cons (hl17 3 (by decide)).one (allOne_cons (hl17 4 (by decide)).one (allOne_cons (hl17 5 (by decide)).one (allOne_cons (hl17 6 (by decide)).one (allOne_cons (hl17 7 (by decide)).one (allOne_cons (hl17 8 (by decide)).one (allOne_cons (hl17 9 (by decide)).one rfl)))))))))))) <| .nil <| sq_n <| .draw (tb := [r0 0 0, r0 1 0, r0 0 0, r0 4 0, r0 12 1, r1 31 1, r1 63 2, r1 127 2]) rfl (by kernel_rfl) (by kernel_rfl) ?_
      refine .p .no rfl (.fa rfl f_24_1) rfl rfl rfl <| .y rfl rfl rfl (.s rfl (.tl (.tl (.tl (.tl .hd)))) a_22 rfl) <| .y rfl rfl rfl (.a (vs := [_, _, _, _, _, _, _, _, _, _, _, _]) rfl .hd a_97 s_97 rfl rfl) ?_
      obtain ⟨q19, hq19, hF⟩ := bS hF
      refine .call .no rfl rfl rfl rfl rfl (F_code_copied_ok y17 _ _ ⟨_, _, rfl, hp17, hl17⟩ _ hq19) ?_
      rintro g19 ml19 r19 hle19 ⟨rfl, cs19_0, rfl, ⟨p19_0, lv19_0, rfl, hp19_0, hl19_0⟩⟩
      replace hcq0 := hcq0.mono VersionR.mono hle19
      replace hpq1 := hpq1.mono PutR.mono hle19
      replace hlq1 := fun k hk => (hlq1 k hk).mono PieceR.mono hle19
      replace h1_4_0 := h1_4_0.mono VersionR.mono hle19
      replace h3_4_0 := h3_4_0.mono PutR.mono hle19
      replace h4_4_0 := h4_4_0.mono PieceR.mono hle19
      replace h5_4_0 := h5_4_0.mono PieceR.mono hle19
      replace h6_4_0 := h6_4_0.mono PieceR.mono hle19
      replace h7_4_0 := h7_4_0.mono PieceR.mono hle19
      replace h8_4_0 := h8_4_0.mono PieceR.mono hle19
      replace h9_4_0 := h9_4_0.mono PieceR.mono hle19
      replace h10_4_0 := h10_4_0.mono PieceR.mono hle19
      replace h11_4_0 := h11_4_0.mono PieceR.mono hle19
      replace h12_4_0 := h12_4_0.mono PieceR.mono hle19
      replace h13_4_0 := h13_4_0.mono PieceR.mono hle19
      replace ha1_6 := ha1_6.mono VersionR.mono hle19
      have lh19_0_1 := hp19_0.1
      have lh19_0_2 := (hl19_0 0 (by decide)).1
      have lh19_0_3 := (hl19_0 1 (by decide)).1
      have lh19_0_4 := (hl19_0 2 (by decide)).1
      have lh19_0_5 := (hl19_0 3 (by decide)).1
      have lh19_0_6 := (hl19_0 4 (by decide)).1
      have lh19_0_7 := (hl19_0 5 (by decide)).1
      have lh19_0_8 := (hl19_0 6 (by decide)).1
      have lh19_0_9 := (hl19_0 7 (by decide)).1
      have lh19_0_10 := (hl19_0 8 (by decide)).1
      have lh19_0_11 := (hl19_0 9 (by decide)).1
      refine .f .no rfl (.bs (qs := [(0, _)]) (c := [_, _, _, _, _, _, _, _, _, _, _, _]) rfl sl_22 el_97 (by decide) rfl) fun b20 => ?_
      obtain ⟨hl21, hF⟩ := ckS hF
      have hl21 := of_decide_eq_true hl21
      refine .ne (.tl .hd) .hd fun hn21_b18 => .ne (.tl .hd) (.tl (.tl (.tl .hd))) fun hn21_b11 => .x .no rfl rfl (pinF_t rfl pinF_n) (restA_t rfl restA_n) (mo_app rfl) (fun _ _ => .all (allA_c rfl (allA_c rfl rfl))) (.appA (m := 1) (new := [_, _, _, _, _, _, _, _, _, _, _, _]) rfl rfl rfl (.tl (.tl .hd)) sl_22 el_97 (.of rfl .sl sl_22 .hd (Nat.le_of_ble_eq_true rfl) rfl) (by decide) rfl (AccR.room (R := VersionR) (ys := [q19]) ha1_6 (Ls.cons (c := [_, _, _, _, _, _, _, _, _, _, _, _]) rfl (VersionR.of hp19_0 (hl19_0 0 (by decide)) (hl19_0 1 (by decide)) (hl19_0 2 (by decide)) (hl19_0 3 (by decide)) (hl19_0 4 (by decide)) (hl19_0 5 (by decide)) (hl19_0 6 (by decide)) (hl19_0 7 (by decide)) (hl19_0 8 (by decide)) (hl19_0 9 (by decide))) .nil) hl21) (allOne_cons rfl (allOne_cons hp19_0.one (allOne_cons (hl19_0 0 (by decide)).one (allOne_cons (hl19_0 1 (by decide)).one (allOne_cons (hl19_0 2 (by decide)).one (allOne_cons (hl19_0 3 (by decide)).one (allOne_cons (hl19_0 4 (by decide)).one (allOne_cons (hl19_0 5 (by decide)).one (allOne_cons (hl19_0 6 (by decide)).one (allOne_cons (hl19_0 7 (by decide)).one (allOne_cons (hl19_0 8 (by decide)).one (allOne_cons (hl19_0 9 (by decide)).one rfl))))))))))))) fun v21 => .as (.tl (.tl .hd)) fun av21 => ?_
      have ha21 := AccR.app (R := VersionR) (g := g19) (ys := [q19]) ha1_6 (Ls.cons (c := [_, _, _, _, _, _, _, _, _, _, _, _]) rfl (VersionR.of hp19_0 (hl19_0 0 (by decide)) (hl19_0 1 (by decide)) (hl19_0 2 (by decide)) (hl19_0 3 (by decide)) (hl19_0 4 (by decide)) (hl19_0 5 (by decide)) (hl19_0 6 (by decide)) (hl19_0 7 (by decide)) (hl19_0 8 (by decide)) (hl19_0 9 (by decide))) .nil) hl21 av21
      have lha21 := ha21.le
      refine .p .no rfl (.fa rfl f_24_1) rfl rfl rfl <| .st (cs' := [_, _]) .no rfl rfl rfl rfl ha21.any ha21.cells s_22 rfl rfl (.tl (.tl (.tl (.tl (.tl .hd))))) rfl (allOne_cons ha21.one rfl) (.all (allA_c rfl (allA_c rfl rfl))) <| .nil <| bq_n <| sq_n <| .region rfl <| .p .no rfl (.inc1 rfl rfl (by omega)) <| .m rfl rfl <| .nil <| loopQ_n (L_code_Amend_1.mk (k1_1 + 1) s1_2 _ _ (d1_3 ++ [q19])) ⟨rfl, rfl, rfl, rfl, rfl, trivial⟩ (.cons _ (.cons _ (List.Sublist.refl _))) hle19 ?_ ?_
      ·exact ⟨ha21, hF⟩
      ·simp only; omega
     ·have kh16 := dF h16
      have em1 : (((q12 ++ [p1]).length : Int) - (k1_1 : Int)).toNat = 0 := by omega
      rw [em1, F_code_Amend_l1] at hF
      obtain rfl := sI hF
      have hF := hG1
      refine .exit <| sq_e <| lq_e <| bq_x rfl <| sq_n <| .seq <| .region rfl <| .ld .no rfl (.a (vs := [_, _]) rfl (.tl (.tl (.tl .hd))) a_24 s_24 rfl rfl) <| .st (cs' := [_, _]) .no rfl rfl rfl rfl s_24 rfl rfl (.tl (.tl (.tl (.tl (.tl .hd))))) rfl (allOne_cons rfl (allOne_cons ha1_6.one rfl)) <| .z rfl rfl <| .nil <| sq_n <| .see (seeFreeze VersionR.mono .hd (by decide) ha1_6) ?_
      rintro gz22 ⟨hle22, hz22⟩
      replace hcq0 := hcq0.mono VersionR.mono hle22
      replace hpq1 := hpq1.mono PutR.mono hle22
      replace hlq1 := fun k hk => (hlq1 k hk).mono PieceR.mono hle22
      replace h1_4_0 := h1_4_0.mono VersionR.mono hle22
      replace h3_4_0 := h3_4_0.mono PutR.mono hle22
      replace h4_4_0 := h4_4_0.mono PieceR.mono hle22
      replace h5_4_0 := h5_4_0.mono PieceR.mono hle22
      replace h6_4_0 := h6_4_0.mono PieceR.mono hle22
      replace h7_4_0 := h7_4_0.mono PieceR.mono hle22
      replace h8_4_0 := h8_4_0.mono PieceR.mono hle22
      replace h9_4_0 := h9_4_0.mono PieceR.mono hle22
      replace h10_4_0 := h10_4_0.mono PieceR.mono hle22
      replace h11_4_0 := h11_4_0.mono PieceR.mono hle22
      replace h12_4_0 := h12_4_0.mono PieceR.mono hle22
      replace h13_4_0 := h13_4_0.mono PieceR.mono hle22
      refine .ret ?_
      obtain rfl := sI hF
      refine retQ_r (((((hle4.trans hle8).trans hle9).trans hle12).trans hlo1).trans hle22) (.cell (.a (vs := [_, _]) rfl (.tl (.tl (.tl (.tl .hd)))) a_24 s_24 rfl rfl) (.tmp rfl .nil)) rfl ?_
      exact ⟨_, rfl, ⟨_, rfl, hz22⟩⟩
   ·have kh7 := (nF h7)
    have hF := cF h7 hF
    refine .p (.yes rfl rfl h7) rfl (.fa rfl f_97_0) rfl rfl rfl <| .ld (k := 0) (.yes rfl rfl h7) rfl rfl rfl trivial (.s rfl (.tl (.tl .hd)) a_3 rfl) <| .p (.yes rfl rfl h7) rfl (.fa rfl f_24_1) rfl rfl rfl <| .ld (k := 0) (.yes rfl rfl h7) rfl rfl rfl trivial (.s rfl (.tl (.tl (.tl .hd))) a_22 rfl) <| .p (.yes rfl rfl h7) rfl (.move rfl) rfl rfl rfl <| .p (.yes rfl rfl h7) rfl (.sub rfl rfl (by omega)) rfl rfl rfl ?_
    obtain ⟨y23, hy23, hF⟩ := bS hF
    have hj23 := atI_lt hy23
    refine .ixl (.yes rfl rfl h7) rfl rfl hcq0 rfl e_22 hy23 ?_
    rintro b23 o23 _ hq23 ⟨p23, lv23, rfl, hp23, hl23⟩
    have lh23_1 := hp23.1
    have lh23_2 := (hl23 0 (by decide)).1
    have lh23_3 := (hl23 1 (by decide)).1
    have lh23_4 := (hl23 2 (by decide)).1
    have lh23_5 := (hl23 3 (by decide)).1
    have lh23_6 := (hl23 4 (by decide)).1
    have lh23_7 := (hl23 5 (by decide)).1
    have lh23_8 := (hl23 6 (by decide)).1
    have lh23_9 := (hl23 7 (by decide)).1
    have lh23_10 := (hl23 8 (by decide)).1
    have lh23_11 := (hl23 9 (by decide)).1
    refine .p (.yes rfl rfl h7) rfl (.fa rfl f_97_0) rfl rfl rfl <| .ld (k := 0) (.yes rfl rfl h7) rfl rfl rfl trivial (.ps 0 rfl hq23 rfl a_3 rfl) <| .p (.yes rfl rfl h7) rfl (.bin rfl rfl rfl) rfl rfl rfl <| .p .no rfl (.pickF rfl h7 rfl) rfl rfl rfl ?_
    obtain ⟨q24, hq24, hF⟩ := bS hF
    refine .callT .no rfl rfl rfl rfl rfl rfl .hd (F_code_question_fail_ok q4 (decide (p1.fr ≤ y23.fr)) 42 _ _ _ ⟨_, _, _, _, _, _, _, _, _, _, _, _, rfl, h1_4_0, h3_4_0, h4_4_0, h5_4_0, h6_4_0, h7_4_0, h8_4_0, h9_4_0, h10_4_0, h11_4_0, h12_4_0, h13_4_0⟩ _ hq24) ?_
    rintro g24 ml24 r24 hle24 ⟨cs24_0, rfl, rfl, ⟨v1_24_0, v3_24_0, v4_24_0, v5_24_0, v6_24_0, v7_24_0, v8_24_0, v9_24_0, v10_24_0, v11_24_0, v12_24_0, v13_24_0, rfl, h1_24_0, h3_24_0, h4_24_0, h5_24_0, h6_24_0, h7_24_0, h8_24_0, h9_24_0, h10_24_0, h11_24_0, h12_24_0, h13_24_0⟩⟩
    replace hcq0 := hcq0.mono VersionR.mono hle24
    replace hpq1 := hpq1.mono PutR.mono hle24
    replace hlq1 := fun k hk => (hlq1 k hk).mono PieceR.mono hle24
    have lh24_0_1 := h1_24_0.1
    have lh24_0_3 := h3_24_0.1
    have lh24_0_4 := h4_24_0.1
    have lh24_0_5 := h5_24_0.1
    have lh24_0_6 := h6_24_0.1
    have lh24_0_7 := h7_24_0.1
    have lh24_0_8 := h8_24_0.1
    have lh24_0_9 := h9_24_0.1
    have lh24_0_10 := h10_24_0.1
    have lh24_0_11 := h11_24_0.1
    have lh24_0_12 := h12_24_0.1
    have lh24_0_13 := h13_24_0.1
    refine .m rfl rfl <| .b rfl rfl rfl rfl ?_
    obtain ⟨q25, hq25, hF⟩ := bS hF
    refine .callT .no rfl rfl rfl rfl rfl rfl .hd (F_code_question_fail_ok q24 (decide ((p0.vs.length : Int) = 12)) 2 _ _ _ ⟨_, _, _, _, _, _, _, _, _, _, _, _, rfl, h1_24_0, h3_24_0, h4_24_0, h5_24_0, h6_24_0, h7_24_0, h8_24_0, h9_24_0, h10_24_0, h11_24_0, h12_24_0, h13_24_0⟩ _ hq25) ?_
    rintro g25 ml25 r25 hle25 ⟨cs25_0, rfl, rfl, ⟨v1_25_0, v3_25_0, v4_25_0, v5_25_0, v6_25_0, v7_25_0, v8_25_0, v9_25_0, v10_25_0, v11_25_0, v12_25_0, v13_25_0, rfl, h1_25_0, h3_25_0, h4_25_0, h5_25_0, h6_25_0, h7_25_0, h8_25_0, h9_25_0, h10_25_0, h11_25_0, h12_25_0, h13_25_0⟩⟩
    replace hcq0 := hcq0.mono VersionR.mono hle25
    replace hpq1 := hpq1.mono PutR.mono hle25
    replace hlq1 := fun k hk => (hlq1 k hk).mono PieceR.mono hle25
    have lh25_0_1 := h1_25_0.1
    have lh25_0_3 := h3_25_0.1
    have lh25_0_4 := h4_25_0.1
    have lh25_0_5 := h5_25_0.1
    have lh25_0_6 := h6_25_0.1
    have lh25_0_7 := h7_25_0.1
    have lh25_0_8 := h8_25_0.1
    have lh25_0_9 := h9_25_0.1
    have lh25_0_10 := h10_25_0.1
    have lh25_0_11 := h11_25_0.1
    have lh25_0_12 := h12_25_0.1
    have lh25_0_13 := h13_25_0.1
    refine .p .no rfl (.nil rfl) rfl rfl rfl <| .p .no rfl (.fa rfl f_132_3) rfl rfl rfl <| .y rfl rfl rfl (.s rfl .hd a_30 rfl) <| .b rfl rfl rfl rfl <| .nil <| sq_n <| .cond rfl (fun h26 => ?_) (fun h26 => ?_)
    ·have kh26 := dF (nT h26)
     have hF := cT h26 hF
     refine .seq <| .draw (tb := [r0 0 0, r1 0 0, r1 2 0, r1 6 0, r1 14 0, r0 1 0, r1 63 1]) rfl (by kernel_rfl) (by kernel_rfl) ?_
     refine .p .no rfl (.build (qs := []) (cs := [_, _]) rfl b_24 rfl) rfl rfl rfl <| .m rfl rfl <| .p .no rfl (.nil rfl) rfl rfl rfl <| .p .no rfl (.fa rfl f_132_3) rfl rfl rfl <| .y rfl rfl rfl (.s rfl .hd a_30 rfl) <| .st (cs' := [_, _]) .no rfl rfl rfl rfl rfl rfl s_24 rfl rfl (.tl .hd) rfl rfl (FrL.cN (fun _ s => s.neb (.tl .hd) .hd) FrL.n) <| .z rfl rfl <| .nil <| sq_n <| .ret <| sq_r ?_
     obtain rfl := sI hF
     refine retQ_r ((hle4.trans hle24).trans hle25) (.cell (.a (vs := [_, _]) rfl (.tl .hd) a_24 s_24 rfl rfl) (.tmp rfl .nil)) rfl ?_
     exact ⟨_, rfl, ⟨_, rfl, RS.nil⟩⟩
    ·have kh26 := dT (nF h26)
     have hF := cF h26 hF
     refine .skip <| sq_n <| .seq <| .region rfl <| .p .no rfl (.fa rfl f_24_0) <| .ld .no rfl (.s rfl (.tl (.tl (.tl .hd))) a_9 rfl) <| .p .no rfl (.build (qs := [(0, _)]) (cs := [_, _]) rfl b_24 rfl) <| .alloc .no rfl z_24 fun b27 => .st (cs' := [_, _]) .no rfl rfl rfl rfl s_24 rfl rfl .hd rfl rfl <| .nil <| sq_n <| .seq <| .seq <| .draw (tb := [r0 0 0, r0 1 0, r0 3 0, r0 0 0, r0 8 0, r1 31 1, r1 63 2, r0 0 0]) rfl (by kernel_rfl) (by kernel_rfl) ?_
     refine .p .no rfl (.fa rfl f_24_1) rfl rfl rfl <| .y rfl rfl rfl (.s rfl (.tl (.tl (.tl (.tl .hd)))) a_22 rfl) ?_
     obtain ⟨q28, hq28, hF⟩ := bS hF
     refine .call .no rfl rfl rfl rfl rfl (F_slices_Clone_api_Version_api_Version_ok p0.vs _ _ hcq0 _ hq28) ?_
     rintro g28 ml28 r28 hle28 ⟨cs28_0, w28_0, rfl, rfl, ha28_0⟩
     replace hpq1 := hpq1.mono PutR.mono hle28
     replace hlq1 := fun k hk => (hlq1 k hk).mono PieceR.mono hle28
     have lha28_0 := ha28_0.le
     refine .ld (k := 1) .no rfl rfl rfl trivial (.a (vs := [_, _, _, _, _, _, _, _, _, _, _, _]) rfl (.tl (.tl (.tl .hd))) a_97 s_97 rfl rfl) <| .f .no rfl (.bs (qs := [(0, _)]) (c := [_, _, _, _, _, _, _, _, _, _, _, _]) rfl sl_22 el_97 (by decide) rfl) fun b29 => ?_
     obtain ⟨hl30, hF⟩ := ckS hF
     have hl30 := of_decide_eq_true hl30
     refine .ne .hd (.tl (.tl (.tl .hd))) fun hn30_b2 => .ne .hd (.tl (.tl (.tl (.tl .hd)))) fun hn30_b1 => .x .no rfl rfl (pinF_t rfl pinF_n) (restA_t rfl restA_n) (mo_app rfl) (fun _ _ => .all (allA_c rfl (allA_c rfl rfl))) (.appA (m := 1) (new := [_, _, _, _, _, _, _, _, _, _, _, _]) rfl rfl rfl (.tl .hd) sl_22 el_97 (.of rfl .sl sl_22 .hd (Nat.le_of_ble_eq_true rfl) rfl) (by decide) rfl (AccR.room (R := VersionR) (ys := [p1]) ha28_0 (Ls.cons (c := [_, _, _, _, _, _, _, _, _, _, _, _]) rfl (VersionR.of hpq1 (hlq1 0 (by decide)) (hlq1 1 (by decide)) (hlq1 2 (by decide)) (hlq1 3 (by decide)) (hlq1 4 (by decide)) (hlq1 5 (by decide)) (hlq1 6 (by decide)) (hlq1 7 (by decide)) (hlq1 8 (by decide)) (hlq1 9 (by decide))) .nil) hl30) (allOne_cons rfl (allOne_cons hpq1.one (allOne_cons (hlq1 0 (by decide)).one (allOne_cons (hlq1 1 (by decide)).one (allOne_cons (hlq1 2 (by decide)).one (allOne_cons (hlq1 3 (by decide)).one (allOne_cons (hlq1 4 (by decide)).one (allOne_cons (hlq1 5 (by decide)).one (allOne_cons (hlq1 6 (by decide)).one (allOne_cons (hlq1 7 (by decide)).one (allOne_cons (hlq1 8 (by decide)).one (allOne_cons (hlq1 9 (by decide)).one rfl))))))))))))) fun v30 => .as (.tl .hd) fun av30 => ?_
     have ha30 := AccR.app (R := VersionR) (g := g28) (ys := [p1]) ha28_0 (Ls.cons (c := [_, _, _, _, _, _, _, _, _, _, _, _]) rfl (VersionR.of hpq1 (hlq1 0 (by decide)) (hlq1 1 (by decide)) (hlq1 2 (by decide)) (hlq1 3 (by decide)) (hlq1 4 (by decide)) (hlq1 5 (by decide)) (hlq1 6 (by decide)) (hlq1 7 (by decide)) (hlq1 8 (by decide)) (hlq1 9 (by decide))) .nil) hl30 av30
     have lha30 := ha30.le
     refine .p .no rfl (.lenA rfl rfl rfl e_22 (by decide) ha30) rfl rfl rfl <| .m rfl rfl <| .nil <| sq_n <| .block <| .acc 12 97 ?_
     obtain ⟨o2, hF, hG2⟩ := bS hF
     refine .loopx (α := L_code_Amend_2) [(4, _), (8, _), (63, _), (64, _)] [_, _, _, _, _, _] (fun fx x => (65, .i .i64 (x.k2_1 : Int)) :: fx) (fun mx x => [.acc x.v2_4 12 x.cs2_5 97, rg mx 0, rg mx 1, .blk b27 (.cells [.s x.s2_2, x.v2_4] 24), rg mx 2, rg mx 3, rg mx 4, rg mx 5]) (fun x g' => AccR VersionR 12 g' x.v2_4 x.cs2_5 x.d2_3 ∧ F_code_Amend_l2 p1 q28 ((((q28 ++ [p1]).length : Int) - (x.k2_1 : Int)).toNat) x.k2_1 x.s2_2 x.d2_3 = some o2) (fun x => (((q28 ++ [p1]).length : Int) - (x.k2_1 : Int)).toNat) (L_code_Amend_2.mk 0 p0.name _ _ []) ⟨rfl, rfl, rfl, rfl, rfl, trivial⟩ (List.Sublist.refl _) ⟨AccR.nil, hF⟩ ?_
     intro x2 gl2 hlo2 hJ2
     obtain ⟨k2_1, s2_2, v2_4, cs2_5, d2_3⟩ := x2
     try dsimp only at hJ2
     obtain ⟨ha2_6, hF⟩ := hJ2
     refine .al0 [(65, .i .i64 (k2_1 : Int)), (4, _), (8, _), (63, _), (64, _)] ?_
     replace ha30 := ha30.mono VersionR.mono hlo2
     have lha2_6 := ha2_6.le
     refine .seq <| .region rfl <| .b rfl rfl rfl rfl <| .nil <| sq_n <| .seq <| .cond rfl (fun h32 => ?_) (fun h32 => ?_)
     ·have kh32 := dT h32
      have em2 : (((q28 ++ [p1]).length : Int) - (k2_1 : Int)).toNat = (((q28 ++ [p1]).length : Int) - ((k2_1 + 1 : Nat) : Int)).toNat + 1 := by omega
      rw [em2, F_code_Amend_l2] at hF
      refine .skip <| sq_n <| .seq <| .block <| .seq <| .region rfl ?_
      obtain ⟨y33, hy33, hF⟩ := bS hF
      have hj33 := atI_lt hy33
      have hy33 := atI_get hy33
      refine .ixA .no rfl rfl ha30 rfl e_22 (by decide) hj33.1 hy33 ?_
      intro b33 n33 cs33 hv33 hc33 hd33 hr33
      obtain ⟨p33, lv33, rfl, hp33, hl33⟩ := hr33
      have lh33_1 := hp33.1
      have lh33_2 := (hl33 0 (by decide)).1
      have lh33_3 := (hl33 1 (by decide)).1
      have lh33_4 := (hl33 2 (by decide)).1
      have lh33_5 := (hl33 3 (by decide)).1
      have lh33_6 := (hl33 4 (by decide)).1
      have lh33_7 := (hl33 5 (by decide)).1
      have lh33_8 := (hl33 6 (by decide)).1
      have lh33_9 := (hl33 7 (by decide)).1
      have lh33_10 := (hl33 8 (by decide)).1
      have lh33_11 := (hl33 9 (by decide)).1
      refine .ld .no rfl (.aa 0 (vs := [_, _, _, _, _, _, _, _, _, _, _, _]) rfl (.tl (.tl (.acc hv33 rfl))) rfl hd33 hc33 (AccR.cellsLe ha30 hy33) a_97 s_97 rfl rfl) <| .alloc .no rfl z_97 fun b34 => .st (cs' := [_, _, _, _, _, _, _, _, _, _, _, _]) .no rfl rfl rfl rfl s_97 rfl rfl .hd rfl (allOne_cons rfl (allOne_cons hp33.one (allOne_cons (hl33 0 (by decide)).one (allOne_cons (hl33 1 (by decide)).one (allOne_cons (hl33 2 (by decide)).one (allOne_cons (hl33 3 (by decide)).one (allOne_cons (hl33 4 (by decide)).one (allOne_cons (hl33 5 (by decide)).one (allOne_cons (hl33 6 (by decide)).one (allOne_cons (hl33 7 (by decide)).one (allOne_cons (hl33 8 (by decide)).one (allOne_cons (hl33 9 (by decide)).one rfl)))))))))))) <| .nil <| sq_n <| .draw (tb := [r0 0 0, r0 1 0, r0 0 0, r0 4 0, r0 12 1, r1 31 1, r1 63 2, r1 127 2]) rfl (by kernel_rfl) (by kernel_rfl) ?_
      refine .p .no rfl (.fa rfl f_24_1) rfl rfl rfl <| .y rfl rfl rfl (.s rfl (.tl (.tl (.tl (.tl .hd)))) a_22 rfl) <| .y rfl rfl rfl (.a (vs := [_, _, _, _, _, _, _, _, _, _, _, _]) rfl .hd a_97 s_97 rfl rfl) ?_
      obtain ⟨q35, hq35, hF⟩ := bS hF
      refine .call .no rfl rfl rfl rfl rfl (F_code_copied_ok y33 _ _ ⟨_, _, rfl, hp33, hl33⟩ _ hq35) ?_
      rintro g35 ml35 r35 hle35 ⟨rfl, cs35_0, rfl, ⟨p35_0, lv35_0, rfl, hp35_0, hl35_0⟩⟩
      replace ha2_6 := ha2_6.mono VersionR.mono hle35
      have lh35_0_1 := hp35_0.1
      have lh35_0_2 := (hl35_0 0 (by decide)).1
      have lh35_0_3 := (hl35_0 1 (by decide)).1
      have lh35_0_4 := (hl35_0 2 (by decide)).1
      have lh35_0_5 := (hl35_0 3 (by decide)).1
      have lh35_0_6 := (hl35_0 4 (by decide)).1
      have lh35_0_7 := (hl35_0 5 (by decide)).1
      have lh35_0_8 := (hl35_0 6 (by decide)).1
      have lh35_0_9 := (hl35_0 7 (by decide)).1
      have lh35_0_10 := (hl35_0 8 (by decide)).1
      have lh35_0_11 := (hl35_0 9 (by decide)).1
      refine .f .no rfl (.bs (qs := [(0, _)]) (c := [_, _, _, _, _, _, _, _, _, _, _, _]) rfl sl_22 el_97 (by decide) rfl) fun b36 => ?_
      obtain ⟨hl37, hF⟩ := ckS hF
      have hl37 := of_decide_eq_true hl37
      refine .ne (.tl .hd) .hd fun hn37_b34 => .ne (.tl .hd) (.tl (.tl (.tl .hd))) fun hn37_b27 => .x .no rfl rfl (pinF_t rfl pinF_n) (restA_t rfl restA_n) (mo_app rfl) (fun _ _ => .all (allA_c rfl (allA_c rfl rfl))) (.appA (m := 1) (new := [_, _, _, _, _, _, _, _, _, _, _, _]) rfl rfl rfl (.tl (.tl .hd)) sl_22 el_97 (.of rfl .sl sl_22 .hd (Nat.le_of_ble_eq_true rfl) rfl) (by decide) rfl (AccR.room (R := VersionR) (ys := [q35]) ha2_6 (Ls.cons (c := [_, _, _, _, _, _, _, _, _, _, _, _]) rfl (VersionR.of hp35_0 (hl35_0 0 (by decide)) (hl35_0 1 (by decide)) (hl35_0 2 (by decide)) (hl35_0 3 (by decide)) (hl35_0 4 (by decide)) (hl35_0 5 (by decide)) (hl35_0 6 (by decide)) (hl35_0 7 (by decide)) (hl35_0 8 (by decide)) (hl35_0 9 (by decide))) .nil) hl37) (allOne_cons rfl (allOne_cons hp35_0.one (allOne_cons (hl35_0 0 (by decide)).one (allOne_cons (hl35_0 1 (by decide)).one (allOne_cons (hl35_0 2 (by decide)).one (allOne_cons (hl35_0 3 (by decide)).one (allOne_cons (hl35_0 4 (by decide)).one (allOne_cons (hl35_0 5 (by decide)).one (allOne_cons (hl35_0 6 (by decide)).one (allOne_cons (hl35_0 7 (by decide)).one (allOne_cons (hl35_0 8 (by decide)).one (allOne_cons (hl35_0 9 (by decide)).one rfl))))))))))))) fun v37 => .as (.tl (.tl .hd)) fun av37 => ?_
      have ha37 := AccR.app (R := VersionR) (g := g35) (ys := [q35]) ha2_6 (Ls.cons (c := [_, _, _, _, _, _, _, _, _, _, _, _]) rfl (VersionR.of hp35_0 (hl35_0 0 (by decide)) (hl35_0 1 (by decide)) (hl35_0 2 (by decide)) (hl35_0 3 (by decide)) (hl35_0 4 (by decide)) (hl35_0 5 (by decide)) (hl35_0 6 (by decide)) (hl35_0 7 (by decide)) (hl35_0 8 (by decide)) (hl35_0 9 (by decide))) .nil) hl37 av37
      have lha37 := ha37.le
      refine .p .no rfl (.fa rfl f_24_1) rfl rfl rfl <| .st (cs' := [_, _]) .no rfl rfl rfl rfl ha37.any ha37.cells s_22 rfl rfl (.tl (.tl (.tl (.tl (.tl .hd))))) rfl (allOne_cons ha37.one rfl) (.all (allA_c rfl (allA_c rfl rfl))) <| .nil <| bq_n <| sq_n <| .region rfl <| .p .no rfl (.inc1 rfl rfl (by omega)) <| .m rfl rfl <| .nil <| loopQ_n (L_code_Amend_2.mk (k2_1 + 1) s2_2 _ _ (d2_3 ++ [q35])) ⟨rfl, rfl, rfl, rfl, rfl, trivial⟩ (.cons _ (.cons _ (List.Sublist.refl _))) hle35 ?_ ?_
      ·exact ⟨ha37, hF⟩
      ·simp only; omega
     ·have kh32 := dF h32
      have em2 : (((q28 ++ [p1]).length : Int) - (k2_1 : Int)).toNat = 0 := by omega
      rw [em2, F_code_Amend_l2] at hF
      obtain rfl := sI hF
      have hF := hG2
      refine .exit <| sq_e <| lq_e <| bq_x rfl <| sq_n <| .seq <| .region rfl <| .ld .no rfl (.a (vs := [_, _]) rfl (.tl (.tl (.tl .hd))) a_24 s_24 rfl rfl) <| .st (cs' := [_, _]) .no rfl rfl rfl rfl s_24 rfl rfl (.tl (.tl (.tl (.tl (.tl .hd))))) rfl (allOne_cons rfl (allOne_cons ha2_6.one rfl)) <| .z rfl rfl <| .nil <| sq_n <| .see (seeFreeze VersionR.mono .hd (by decide) ha2_6) ?_
      rintro gz38 ⟨hle38, hz38⟩
      refine .ret ?_
      obtain rfl := sI hF
      refine retQ_r (((((hle4.trans hle24).trans hle25).trans hle28).trans hlo2).trans hle38) (.cell (.a (vs := [_, _]) rfl (.tl (.tl (.tl (.tl .hd)))) a_24 s_24 rfl rfl) (.tmp rfl .nil)) rfl ?_
      exact ⟨_, rfl, ⟨_, rfl, hz38⟩⟩
end Go.Proofs.YtjflgemfeofciaaGreatDoor
