import Derived.Test.YtjflgemfeofciaaGreatDoorQa4
/- Layer 4: versions (InForce, Amend) of both sides; the walk of CodeVersions. -/
namespace Go.Proofs.YtjflgemfeofciaaGreatDoor
open Go Go.Ev
set_option linter.unusedVariables false
set_option linter.unusedSimpArgs false
set_option maxRecDepth 10000
def F_slices_Clone_api_Version_api_Version (l : List Version) : Option (List Version) := ck (decide (l.length ≤ 1000000)) (some l)
theorem F_slices_Clone_api_Version_api_Version_ok (p0 : (List Version)) (v0_0 : V) (g : G) (h0_0 : RS VersionR 12 g v0_0 p0) (r : (List Version)) (hF : F_slices_Clone_api_Version_api_Version p0 = some r) : Fw Tryz.prog natS (.f 103 [] []) [v0_0] g [] fun g' ml' q => ∃ (ds0 : List V) (w0_0 : V), ml' = [.acc w0_0 12 ds0 97] ∧ q = (w0_0) ∧ AccR VersionR 12 g' w0_0 ds0 r := by
  obtain ⟨hl, hF⟩ := ckS hF
  obtain rfl := sI hF
  have hl := of_decide_eq_true hl
  refine Fw.enter (N := 8) (al := [(0, _)]) Tryz.func103 (by kernel_rfl) (by kernel_rfl) rfl rfl rfl rfl ?_
  intro B
  obtain ⟨h0, hs⟩ := id h0_0
  have hno : (v0_0 = .sn ∧ p0 = []) ∨ binV Tryz.prog .eql 22 (.tmp 3) (.const (.slice none 0 0)) v0_0 .sn = some (.b false) := by
    rcases hs with ⟨h, e⟩ | ⟨h | h, e⟩ | ⟨b, o, h, -⟩
    · exact .inl ⟨h, e⟩
    · subst h; exact .inr (by kernel_rfl)
    · subst h; exact .inr (by kernel_rfl)
    · cases h <;> exact .inr (by kernel_rfl)
  rcases hno with ⟨rfl, rfl⟩ | hno
  · refine .seq <| .region rfl <| .z rfl rfl <| .nil <| sq_n <| .seq <| .seq <| .region rfl <| .m rfl rfl <| .p .no rfl (.binE rfl rfl (v := .b true) (by kernel_rfl)) <| .nil <| sq_n <| .condT rfl rfl <| .seq <| .region rfl <| .z rfl rfl <| .nil <| sq_n ?_
    refine .see0 (seeEm0 (v := .sn) 12 97 (.inl rfl)) ?_
    refine .ret <| sq_r ?_
    refine retQ_r (Le.refl _) (.tmp rfl .nil) rfl ?_
    exact ⟨_, _, rfl, rfl, AccR.nil⟩
  · refine .seq <| .region rfl <| .z rfl rfl <| .nil <| sq_n <| .seq <| .seq <| .region rfl <| .m rfl rfl <| .p .no rfl (.binE rfl rfl hno) <| .nil <| sq_n <| .condF rfl rfl <| .skip <| sq_n ?_
    refine .seq <| .region rfl <| .bs .no rfl (qs := []) (c := []) rfl sl_22 el_97 (by decide) rfl fun b1 => .m rfl rfl <| .see0 (seeEm0 12 97 (show Em (.sl b1 0 0 0) from .inr (.inr ⟨_, _, rfl⟩))) ?_
    refine .appR .no rfl rfl rfl rfl rfl (fun _ => .hd) sl_22 sl_22 el_97 (AccR.em (R := VersionR) (s := 12) (g := g) (.inr (.inr ⟨_, _, rfl⟩))) h0_0 (fun _ _ h => VersionR.one h) (by simpa using hl) fun new3 v3 hn3 => .as .hd fun av3 => ?_
    have ha3 := AccR.app (R := VersionR) (g := g) (ys := p0) (AccR.em (R := VersionR) (s := 12) (g := g) (show Em (.sl b1 0 0 0) from .inr (.inr ⟨_, _, rfl⟩))) hn3 (by simpa using hl) av3
    refine .z rfl rfl <| .nil <| sq_n <| .drop (.cons_cons _ (.cons _ (List.Sublist.refl _))) <| .ret ?_
    refine retQ_r (Le.refl _) (.tmp rfl .nil) rfl ?_
    exact ⟨_, _, rfl, rfl, ha3⟩
def F_slices_Clone_api_Put_api_Put (l : List Put) : Option (List Put) := ck (decide (l.length ≤ 1000000)) (some l)
theorem F_slices_Clone_api_Put_api_Put_ok (p0 : (List Put)) (v0_0 : V) (g : G) (h0_0 : RS PutR 2 g v0_0 p0) (r : (List Put)) (hF : F_slices_Clone_api_Put_api_Put p0 = some r) : Fw Tryz.prog natS (.f 143 [] []) [v0_0] g [] fun g' ml' q => ∃ (ds0 : List V) (w0_0 : V), ml' = [.acc w0_0 2 ds0 170] ∧ q = (w0_0) ∧ AccR PutR 2 g' w0_0 ds0 r := by
  obtain ⟨hl, hF⟩ := ckS hF
  obtain rfl := sI hF
  have hl := of_decide_eq_true hl
  refine Fw.enter (N := 8) (al := [(0, _)]) Tryz.func143 (by kernel_rfl) (by kernel_rfl) rfl rfl rfl rfl ?_
  intro B
  obtain ⟨h0, hs⟩ := id h0_0
  have hno : (v0_0 = .sn ∧ p0 = []) ∨ binV Tryz.prog .eql 92 (.tmp 3) (.const (.slice none 0 0)) v0_0 .sn = some (.b false) := by
    rcases hs with ⟨h, e⟩ | ⟨h | h, e⟩ | ⟨b, o, h, -⟩
    · exact .inl ⟨h, e⟩
    · subst h; exact .inr (by kernel_rfl)
    · subst h; exact .inr (by kernel_rfl)
    · cases h <;> exact .inr (by kernel_rfl)
  rcases hno with ⟨rfl, rfl⟩ | hno
  · refine .seq <| .region rfl <| .z rfl rfl <| .nil <| sq_n <| .seq <| .seq <| .region rfl <| .m rfl rfl <| .p .no rfl (.binE rfl rfl (v := .b true) (by kernel_rfl)) <| .nil <| sq_n <| .condT rfl rfl <| .seq <| .region rfl <| .z rfl rfl <| .nil <| sq_n ?_
    refine .see0 (seeEm0 (v := .sn) 2 170 (.inl rfl)) ?_
    refine .ret <| sq_r ?_
    refine retQ_r (Le.refl _) (.tmp rfl .nil) rfl ?_
    exact ⟨_, _, rfl, rfl, AccR.nil⟩
  · refine .seq <| .region rfl <| .z rfl rfl <| .nil <| sq_n <| .seq <| .seq <| .region rfl <| .m rfl rfl <| .p .no rfl (.binE rfl rfl hno) <| .nil <| sq_n <| .condF rfl rfl <| .skip <| sq_n ?_
    refine .seq <| .region rfl <| .bs .no rfl (qs := []) (c := []) rfl sl_92 el_170 (by decide) rfl fun b1 => .m rfl rfl <| .see0 (seeEm0 2 170 (show Em (.sl b1 0 0 0) from .inr (.inr ⟨_, _, rfl⟩))) ?_
    refine .appR .no rfl rfl rfl rfl rfl (fun _ => .hd) sl_92 sl_92 el_170 (AccR.em (R := PutR) (s := 2) (g := g) (.inr (.inr ⟨_, _, rfl⟩))) h0_0 (fun _ _ h => PutR.one h) (by simpa using hl) fun new3 v3 hn3 => .as .hd fun av3 => ?_
    have ha3 := AccR.app (R := PutR) (g := g) (ys := p0) (AccR.em (R := PutR) (s := 2) (g := g) (show Em (.sl b1 0 0 0) from .inr (.inr ⟨_, _, rfl⟩))) hn3 (by simpa using hl) av3
    refine .z rfl rfl <| .nil <| sq_n <| .drop (.cons_cons _ (.cons _ (List.Sublist.refl _))) <| .ret ?_
    refine retQ_r (Le.refl _) (.tmp rfl .nil) rfl ?_
    exact ⟨_, _, rfl, rfl, ha3⟩
def F_slices_Clone_api_Test_api_Test (l : List Test) : Option (List Test) := ck (decide (l.length ≤ 1000000)) (some l)
theorem F_slices_Clone_api_Test_api_Test_ok (p0 : (List Test)) (v0_0 : V) (g : G) (h0_0 : RS TestR 3 g v0_0 p0) (r : (List Test)) (hF : F_slices_Clone_api_Test_api_Test p0 = some r) : Fw Tryz.prog natS (.f 144 [] []) [v0_0] g [] fun g' ml' q => ∃ (ds0 : List V) (w0_0 : V), ml' = [.acc w0_0 3 ds0 172] ∧ q = (w0_0) ∧ AccR TestR 3 g' w0_0 ds0 r := by
  obtain ⟨hl, hF⟩ := ckS hF
  obtain rfl := sI hF
  have hl := of_decide_eq_true hl
  refine Fw.enter (N := 8) (al := [(0, _)]) Tryz.func144 (by kernel_rfl) (by kernel_rfl) rfl rfl rfl rfl ?_
  intro B
  obtain ⟨h0, hs⟩ := id h0_0
  have hno : (v0_0 = .sn ∧ p0 = []) ∨ binV Tryz.prog .eql 168 (.tmp 3) (.const (.slice none 0 0)) v0_0 .sn = some (.b false) := by
    rcases hs with ⟨h, e⟩ | ⟨h | h, e⟩ | ⟨b, o, h, -⟩
    · exact .inl ⟨h, e⟩
    · subst h; exact .inr (by kernel_rfl)
    · subst h; exact .inr (by kernel_rfl)
    · cases h <;> exact .inr (by kernel_rfl)
  rcases hno with ⟨rfl, rfl⟩ | hno
  · refine .seq <| .region rfl <| .z rfl rfl <| .nil <| sq_n <| .seq <| .seq <| .region rfl <| .m rfl rfl <| .p .no rfl (.binE rfl rfl (v := .b true) (by kernel_rfl)) <| .nil <| sq_n <| .condT rfl rfl <| .seq <| .region rfl <| .z rfl rfl <| .nil <| sq_n ?_
    refine .see0 (seeEm0 (v := .sn) 3 172 (.inl rfl)) ?_
    refine .ret <| sq_r ?_
    refine retQ_r (Le.refl _) (.tmp rfl .nil) rfl ?_
    exact ⟨_, _, rfl, rfl, AccR.nil⟩
  · refine .seq <| .region rfl <| .z rfl rfl <| .nil <| sq_n <| .seq <| .seq <| .region rfl <| .m rfl rfl <| .p .no rfl (.binE rfl rfl hno) <| .nil <| sq_n <| .condF rfl rfl <| .skip <| sq_n ?_
    refine .seq <| .region rfl <| .bs .no rfl (qs := []) (c := []) rfl sl_168 el_172 (by decide) rfl fun b1 => .m rfl rfl <| .see0 (seeEm0 3 172 (show Em (.sl b1 0 0 0) from .inr (.inr ⟨_, _, rfl⟩))) ?_
    refine .appR .no rfl rfl rfl rfl rfl (fun _ => .hd) sl_168 sl_168 el_172 (AccR.em (R := TestR) (s := 3) (g := g) (.inr (.inr ⟨_, _, rfl⟩))) h0_0 (fun _ _ h => TestR.one h) (by simpa using hl) fun new3 v3 hn3 => .as .hd fun av3 => ?_
    have ha3 := AccR.app (R := TestR) (g := g) (ys := p0) (AccR.em (R := TestR) (s := 3) (g := g) (show Em (.sl b1 0 0 0) from .inr (.inr ⟨_, _, rfl⟩))) hn3 (by simpa using hl) av3
    refine .z rfl rfl <| .nil <| sq_n <| .drop (.cons_cons _ (.cons _ (List.Sublist.refl _))) <| .ret ?_
    refine retQ_r (Le.refl _) (.tmp rfl .nil) rfl ?_
    exact ⟨_, _, rfl, rfl, ha3⟩
def F_slices_Clone_api_Piece_api_Piece (l : List Piece) : Option (List Piece) := ck (decide (l.length ≤ 1000000)) (some l)
theorem F_slices_Clone_api_Piece_api_Piece_ok (p0 : (List Piece)) (v0_0 : V) (g : G) (h0_0 : RS PieceR 3 g v0_0 p0) (r : (List Piece)) (hF : F_slices_Clone_api_Piece_api_Piece p0 = some r) : Fw Tryz.prog natS (.f 145 [] []) [v0_0] g [] fun g' ml' q => ∃ (ds0 : List V) (w0_0 : V), ml' = [.acc w0_0 3 ds0 157] ∧ q = (w0_0) ∧ AccR PieceR 3 g' w0_0 ds0 r := by
  obtain ⟨hl, hF⟩ := ckS hF
  obtain rfl := sI hF
  have hl := of_decide_eq_true hl
  refine Fw.enter (N := 8) (al := [(0, _)]) Tryz.func145 (by kernel_rfl) (by kernel_rfl) rfl rfl rfl rfl ?_
  intro B
  obtain ⟨h0, hs⟩ := id h0_0
  have hno : (v0_0 = .sn ∧ p0 = []) ∨ binV Tryz.prog .eql 93 (.tmp 3) (.const (.slice none 0 0)) v0_0 .sn = some (.b false) := by
    rcases hs with ⟨h, e⟩ | ⟨h | h, e⟩ | ⟨b, o, h, -⟩
    · exact .inl ⟨h, e⟩
    · subst h; exact .inr (by kernel_rfl)
    · subst h; exact .inr (by kernel_rfl)
    · cases h <;> exact .inr (by kernel_rfl)
  rcases hno with ⟨rfl, rfl⟩ | hno
  · refine .seq <| .region rfl <| .z rfl rfl <| .nil <| sq_n <| .seq <| .seq <| .region rfl <| .m rfl rfl <| .p .no rfl (.binE rfl rfl (v := .b true) (by kernel_rfl)) <| .nil <| sq_n <| .condT rfl rfl <| .seq <| .region rfl <| .z rfl rfl <| .nil <| sq_n ?_
    refine .see0 (seeEm0 (v := .sn) 3 157 (.inl rfl)) ?_
    refine .ret <| sq_r ?_
    refine retQ_r (Le.refl _) (.tmp rfl .nil) rfl ?_
    exact ⟨_, _, rfl, rfl, AccR.nil⟩
  · refine .seq <| .region rfl <| .z rfl rfl <| .nil <| sq_n <| .seq <| .seq <| .region rfl <| .m rfl rfl <| .p .no rfl (.binE rfl rfl hno) <| .nil <| sq_n <| .condF rfl rfl <| .skip <| sq_n ?_
    refine .seq <| .region rfl <| .bs .no rfl (qs := []) (c := []) rfl sl_93 el_157 (by decide) rfl fun b1 => .m rfl rfl <| .see0 (seeEm0 3 157 (show Em (.sl b1 0 0 0) from .inr (.inr ⟨_, _, rfl⟩))) ?_
    refine .appR .no rfl rfl rfl rfl rfl (fun _ => .hd) sl_93 sl_93 el_157 (AccR.em (R := PieceR) (s := 3) (g := g) (.inr (.inr ⟨_, _, rfl⟩))) h0_0 (fun _ _ h => PieceR.one h) (by simpa using hl) fun new3 v3 hn3 => .as .hd fun av3 => ?_
    have ha3 := AccR.app (R := PieceR) (g := g) (ys := p0) (AccR.em (R := PieceR) (s := 3) (g := g) (show Em (.sl b1 0 0 0) from .inr (.inr ⟨_, _, rfl⟩))) hn3 (by simpa using hl) av3
    refine .z rfl rfl <| .nil <| sq_n <| .drop (.cons_cons _ (.cons _ (List.Sublist.refl _))) <| .ret ?_
    refine retQ_r (Le.refl _) (.tmp rfl .nil) rfl ?_
    exact ⟨_, _, rfl, rfl, ha3⟩
theorem eq_172 (a0 b0 : Int) (a1 b1 : Int) (a2 b2 : Int) : eqW Tryz.prog 60 172 (.agg [.i .i64 a0, .i .i64 a1, .i .i64 a2]) (.agg [.i .i64 b0, .i .i64 b1, .i .i64 b2]) = some ((decide (a0 = b0)) && ((decide (a1 = b1)) && ((decide (a2 = b2)) && true))) := by kernel_rfl
theorem eq_157 (a0 b0 : Int) (a1 b1 : Int) (a2 b2 : Int) : eqW Tryz.prog 60 157 (.agg [.i .i64 a0, .i .i64 a1, .i .i64 a2]) (.agg [.i .i64 b0, .i .i64 b1, .i .i64 b2]) = some ((decide (a0 = b0)) && ((decide (a1 = b1)) && ((decide (a2 = b2)) && true))) := by kernel_rfl


structure L_r04_sameVersion_2 where
  k2_1 : Nat
def F_r04_sameVersion_l2 (y7 : Put) : List Test → Nat → Option ((Bool) ⊕ (Unit))
  | [], k2_1 => some ((Sum.inr ()))
  | y2 :: ys2, k2_1 => ((y7.tests[k2_1]?).bind fun y17 => (cond (!((decide (y2.of = y17.of)) && ((decide (y2.how = y17.how)) && ((decide (y2.num = y17.num)) && true)))) (some ((Sum.inl false))) (F_r04_sameVersion_l2 y7 ys2 (k2_1 + 1))))
structure L_r04_sameVersion_12 where
  k12_1 : Nat
def F_r04_sameVersion_l12 (p1 : Version) : List Piece → Nat → Option ((Bool) ⊕ (Unit))
  | [], k12_1 => some ((Sum.inr ()))
  | y12 :: ys12, k12_1 => (((p1.ln 9)[k12_1]?).bind fun y67 => (cond (!((decide (y12.fr = y67.fr)) && ((decide (y12.base = y67.base)) && ((decide (y12.rate = y67.rate)) && true)))) (some ((Sum.inl false))) (F_r04_sameVersion_l12 p1 ys12 (k12_1 + 1))))
structure L_r04_sameVersion_11 where
  k11_1 : Nat
def F_r04_sameVersion_l11 (p1 : Version) : List Piece → Nat → Option ((Bool) ⊕ (Unit))
  | [], k11_1 => some ((Sum.inr ()))
  | y11 :: ys11, k11_1 => (((p1.ln 8)[k11_1]?).bind fun y62 => (cond (!((decide (y11.fr = y62.fr)) && ((decide (y11.base = y62.base)) && ((decide (y11.rate = y62.rate)) && true)))) (some ((Sum.inl false))) (F_r04_sameVersion_l11 p1 ys11 (k11_1 + 1))))
structure L_r04_sameVersion_10 where
  k10_1 : Nat
def F_r04_sameVersion_l10 (p1 : Version) : List Piece → Nat → Option ((Bool) ⊕ (Unit))
  | [], k10_1 => some ((Sum.inr ()))
  | y10 :: ys10, k10_1 => (((p1.ln 7)[k10_1]?).bind fun y57 => (cond (!((decide (y10.fr = y57.fr)) && ((decide (y10.base = y57.base)) && ((decide (y10.rate = y57.rate)) && true)))) (some ((Sum.inl false))) (F_r04_sameVersion_l10 p1 ys10 (k10_1 + 1))))
structure L_r04_sameVersion_9 where
  k9_1 : Nat
def F_r04_sameVersion_l9 (p1 : Version) : List Piece → Nat → Option ((Bool) ⊕ (Unit))
  | [], k9_1 => some ((Sum.inr ()))
  | y9 :: ys9, k9_1 => (((p1.ln 6)[k9_1]?).bind fun y52 => (cond (!((decide (y9.fr = y52.fr)) && ((decide (y9.base = y52.base)) && ((decide (y9.rate = y52.rate)) && true)))) (some ((Sum.inl false))) (F_r04_sameVersion_l9 p1 ys9 (k9_1 + 1))))
structure L_r04_sameVersion_8 where
  k8_1 : Nat
def F_r04_sameVersion_l8 (p1 : Version) : List Piece → Nat → Option ((Bool) ⊕ (Unit))
  | [], k8_1 => some ((Sum.inr ()))
  | y8 :: ys8, k8_1 => (((p1.ln 5)[k8_1]?).bind fun y47 => (cond (!((decide (y8.fr = y47.fr)) && ((decide (y8.base = y47.base)) && ((decide (y8.rate = y47.rate)) && true)))) (some ((Sum.inl false))) (F_r04_sameVersion_l8 p1 ys8 (k8_1 + 1))))
structure L_r04_sameVersion_7 where
  k7_1 : Nat
def F_r04_sameVersion_l7 (p1 : Version) : List Piece → Nat → Option ((Bool) ⊕ (Unit))
  | [], k7_1 => some ((Sum.inr ()))
  | y7 :: ys7, k7_1 => (((p1.ln 4)[k7_1]?).bind fun y42 => (cond (!((decide (y7.fr = y42.fr)) && ((decide (y7.base = y42.base)) && ((decide (y7.rate = y42.rate)) && true)))) (some ((Sum.inl false))) (F_r04_sameVersion_l7 p1 ys7 (k7_1 + 1))))
structure L_r04_sameVersion_6 where
  k6_1 : Nat
def F_r04_sameVersion_l6 (p1 : Version) : List Piece → Nat → Option ((Bool) ⊕ (Unit))
  | [], k6_1 => some ((Sum.inr ()))
  | y6 :: ys6, k6_1 => (((p1.ln 3)[k6_1]?).bind fun y37 => (cond (!((decide (y6.fr = y37.fr)) && ((decide (y6.base = y37.base)) && ((decide (y6.rate = y37.rate)) && true)))) (some ((Sum.inl false))) (F_r04_sameVersion_l6 p1 ys6 (k6_1 + 1))))
structure L_r04_sameVersion_5 where
  k5_1 : Nat
def F_r04_sameVersion_l5 (p1 : Version) : List Piece → Nat → Option ((Bool) ⊕ (Unit))
  | [], k5_1 => some ((Sum.inr ()))
  | y5 :: ys5, k5_1 => (((p1.ln 2)[k5_1]?).bind fun y32 => (cond (!((decide (y5.fr = y32.fr)) && ((decide (y5.base = y32.base)) && ((decide (y5.rate = y32.rate)) && true)))) (some ((Sum.inl false))) (F_r04_sameVersion_l5 p1 ys5 (k5_1 + 1))))
structure L_r04_sameVersion_4 where
  k4_1 : Nat
def F_r04_sameVersion_l4 (p1 : Version) : List Piece → Nat → Option ((Bool) ⊕ (Unit))
  | [], k4_1 => some ((Sum.inr ()))
  | y4 :: ys4, k4_1 => (((p1.ln 1)[k4_1]?).bind fun y27 => (cond (!((decide (y4.fr = y27.fr)) && ((decide (y4.base = y27.base)) && ((decide (y4.rate = y27.rate)) && true)))) (some ((Sum.inl false))) (F_r04_sameVersion_l4 p1 ys4 (k4_1 + 1))))
structure L_r04_sameVersion_3 where
  k3_1 : Nat
def F_r04_sameVersion_l3 (p1 : Version) : List Piece → Nat → Option ((Bool) ⊕ (Unit))
  | [], k3_1 => some ((Sum.inr ()))
  | y3 :: ys3, k3_1 => (((p1.ln 0)[k3_1]?).bind fun y22 => (cond (!((decide (y3.fr = y22.fr)) && ((decide (y3.base = y22.base)) && ((decide (y3.rate = y22.rate)) && true)))) (some ((Sum.inl false))) (F_r04_sameVersion_l3 p1 ys3 (k3_1 + 1))))
structure L_r04_sameVersion_1 where
  k1_1 : Nat
def F_r04_sameVersion_l1 (p1 : Version) : List Put → Nat → Option ((Bool) ⊕ (Unit))
  | [], k1_1 => some ((Sum.inr ()))
  | y1 :: ys1, k1_1 => ((p1.puts[k1_1]?).bind fun y7 => (cond (!(decide (y1.group = y7.group))) (some ((Sum.inl false))) ((cond (!(decide ((y1.tests.length : Int) = (y7.tests.length : Int)))) (some ((Sum.inl false))) (((F_r04_sameVersion_l2 y7 y1.tests 0).bind fun o => match o with | (Sum.inl q) => (some ((Sum.inl q))) | (Sum.inr _) => (F_r04_sameVersion_l1 p1 ys1 (k1_1 + 1))))))))
def F_r04_sameVersion (p0 : Version) (p1 : Version) : Option (Bool) := (cond (!(decide (p0.fr = p1.fr))) (some false) ((cond (!(decide ((p0.puts.length : Int) = (p1.puts.length : Int)))) (some false) (((F_r04_sameVersion_l1 p1 p0.puts 0).bind fun o => match o with | (Sum.inl q) => (some q) | (Sum.inr _) => ((cond (!(decide (((p0.ln 0).length : Int) = ((p1.ln 0).length : Int)))) (some false) (((F_r04_sameVersion_l3 p1 (p0.ln 0) 0).bind fun o => match o with | (Sum.inl q) => (some q) | (Sum.inr _) => ((cond (!(decide (((p0.ln 1).length : Int) = ((p1.ln 1).length : Int)))) (some false) (((F_r04_sameVersion_l4 p1 (p0.ln 1) 0).bind fun o => match o with | (Sum.inl q) => (some q) | (Sum.inr _) => ((cond (!(decide (((p0.ln 2).length : Int) = ((p1.ln 2).length : Int)))) (some false) (((F_r04_sameVersion_l5 p1 (p0.ln 2) 0).bind fun o => match o with | (Sum.inl q) => (some q) | (Sum.inr _) => ((cond (!(decide (((p0.ln 3).length : Int) = ((p1.ln 3).length : Int)))) (some false) (((F_r04_sameVersion_l6 p1 (p0.ln 3) 0).bind fun o => match o with | (Sum.inl q) => (some q) | (Sum.inr _) => ((cond (!(decide (((p0.ln 4).length : Int) = ((p1.ln 4).length : Int)))) (some false) (((F_r04_sameVersion_l7 p1 (p0.ln 4) 0).bind fun o => match o with | (Sum.inl q) => (some q) | (Sum.inr _) => ((cond (!(decide (((p0.ln 5).length : Int) = ((p1.ln 5).length : Int)))) (some false) (((F_r04_sameVersion_l8 p1 (p0.ln 5) 0).bind fun o => match o with | (Sum.inl q) => (some q) | (Sum.inr _) => ((cond (!(decide (((p0.ln 6).length : Int) = ((p1.ln 6).length : Int)))) (some false) (((F_r04_sameVersion_l9 p1 (p0.ln 6) 0).bind fun o => match o with | (Sum.inl q) => (some q) | (Sum.inr _) => ((cond (!(decide (((p0.ln 7).length : Int) = ((p1.ln 7).length : Int)))) (some false) (((F_r04_sameVersion_l10 p1 (p0.ln 7) 0).bind fun o => match o with | (Sum.inl q) => (some q) | (Sum.inr _) => ((cond (!(decide (((p0.ln 8).length : Int) = ((p1.ln 8).length : Int)))) (some false) (((F_r04_sameVersion_l11 p1 (p0.ln 8) 0).bind fun o => match o with | (Sum.inl q) => (some q) | (Sum.inr _) => ((cond (!(decide (((p0.ln 9).length : Int) = ((p1.ln 9).length : Int)))) (some false) (((F_r04_sameVersion_l12 p1 (p0.ln 9) 0).bind fun o => match o with | (Sum.inl q) => (some q) | (Sum.inr _) => (some true))))))))))))))))))))))))))))))))))))))))))))))
set_option maxHeartbeats 1000000 in
theorem F_r04_sameVersion_ok (p0 : Version) (p1 : Version) (cs0 cs1 : List V) (g : G) (h0 : VersionR g cs0 p0) (h1 : VersionR g cs1 p1) (r : Bool) (hF : F_r04_sameVersion p0 p1 = some r) : Fv Tryz.prog natS (.f 105 [] []) [.agg cs0, .agg cs1] g (.b r) := by
  refine Fw.fv ?_
  unfold F_r04_sameVersion at hF
  obtain ⟨pq0, lvq0, rfl, hpq0, hlq0⟩ := h0
  have lh0_1 := hpq0.1
  have lh0_2 := (hlq0 0 (by decide)).1
  have lh0_3 := (hlq0 1 (by decide)).1
  have lh0_4 := (hlq0 2 (by decide)).1
  have lh0_5 := (hlq0 3 (by decide)).1
  have lh0_6 := (hlq0 4 (by decide)).1
  have lh0_7 := (hlq0 5 (by decide)).1
  have lh0_8 := (hlq0 6 (by decide)).1
  have lh0_9 := (hlq0 7 (by decide)).1
  have lh0_10 := (hlq0 8 (by decide)).1
  have lh0_11 := (hlq0 9 (by decide)).1
  obtain ⟨pq1, lvq1, rfl, hpq1, hlq1⟩ := h1
  have lh1_1 := hpq1.1
  have lh1_2 := (hlq1 0 (by decide)).1
  have lh1_3 := (hlq1 1 (by decide)).1
  have lh1_4 := (hlq1 2 (by decide)).1
  have lh1_5 := (hlq1 3 (by decide)).1
  have lh1_6 := (hlq1 4 (by decide)).1
  have lh1_7 := (hlq1 5 (by decide)).1
  have lh1_8 := (hlq1 6 (by decide)).1
  have lh1_9 := (hlq1 7 (by decide)).1
  have lh1_10 := (hlq1 8 (by decide)).1
  have lh1_11 := (hlq1 9 (by decide)).1
  refine Fw.enter (N := 144) (al := [(1, _), (0, _)]) Tryz.func105 (by kernel_rfl) (by kernel_rfl) rfl rfl rfl rfl ?_
  intro B
  refine .seq <| .region rfl <| .box .no rfl rfl rfl rfl fun b1 => .box .no rfl rfl rfl rfl fun b2 => .z rfl rfl <| .nil <| sq_n <| .seq <| .seq <| .region rfl <| .p .no rfl (.fa rfl f_97_0) <| .ld .no rfl (.s rfl (.tl .hd) a_3 rfl) <| .p .no rfl (.fa rfl f_97_0) <| .ld .no rfl (.s rfl .hd a_3 rfl) <| .b rfl rfl rfl rfl <| .m rfl rfl <| .split (t := 15) rfl (fun h3 => ?_) (fun h3 => ?_)
  · have kh3 := dF (nT h3)
    have hF := cT h3 hF
    refine .skip (.yes rfl rfl h3) rfl <| .skip (.yes rfl rfl h3) rfl <| .skip (.yes rfl rfl h3) rfl <| .skip (.yes rfl rfl h3) rfl <| .skip (.yes rfl rfl h3) rfl <| .skip (.yes rfl rfl h3) rfl <| .skip (.yes rfl rfl h3) rfl <| .p .no rfl (.pickT rfl h3 rfl) <| .nil <| sq_n <| .condT rfl rfl <| .seq <| .region rfl <| .z rfl rfl <| .nil <| sq_n <| .ret <| sq_r ?_
    obtain rfl := sI hF
    refine retQ_r (Le.refl _) (.tmp rfl .nil) rfl ?_
    rfl
  · have kh3 := dT (nF h3)
    have hF := cF h3 hF
    refine .p (.yes rfl rfl h3) rfl (.fa rfl f_97_1) <| .ld (.yes rfl rfl h3) rfl (.s rfl (.tl .hd) a_92 rfl) <| .p (.yes rfl rfl h3) rfl (.lenR rfl rfl rfl e_92 hpq0) <| .p (.yes rfl rfl h3) rfl (.fa rfl f_97_1) <| .ld (.yes rfl rfl h3) rfl (.s rfl .hd a_92 rfl) <| .p (.yes rfl rfl h3) rfl (.lenR rfl rfl rfl e_92 hpq1) <| .p (.yes rfl rfl h3) rfl (.bin rfl rfl rfl) <| .p .no rfl (.pickF rfl h3 rfl) <| .nil <| sq_n <| .cond rfl (fun h4 => ?_) (fun h4 => ?_)
    · have kh4 := dF (nT h4)
      have hF := cT h4 hF
      refine .seq <| .region rfl <| .z rfl rfl <| .nil <| sq_n <| .ret <| sq_r ?_
      obtain rfl := sI hF
      refine retQ_r (Le.refl _) (.tmp rfl .nil) rfl ?_
      rfl
    · have kh4 := dT (nF h4)
      have hF := cF h4 hF
      refine .skip <| sq_n <| .seq <| .seq <| .region rfl <| .z rfl rfl <| .nil <| sq_n <| .block ?_
      obtain ⟨o1, hF, hG1⟩ := bS hF
      refine .loopx (α := L_r04_sameVersion_1) [(2, _), (3, _)] _ (fun fx x => (5, .i .i64 (x.k1_1 : Int)) :: fx) (fun mx _ => mx) (fun x g' => x.k1_1 ≤ p0.puts.length ∧ F_r04_sameVersion_l1 p1 (p0.puts.drop x.k1_1) x.k1_1 = some o1) (fun x => p0.puts.length - x.k1_1) (L_r04_sameVersion_1.mk 0) ⟨rfl, rfl, rfl, trivial⟩ (List.Sublist.refl _) ⟨(by first | omega | (dsimp only; omega)), hF⟩ ?_
      intro x1 g1 hle1 hJ1
      obtain ⟨k1_1⟩ := x1
      try dsimp only at hJ1
      obtain ⟨hk1, hF⟩ := hJ1
      refine .al0 [(5, .i .i64 (k1_1 : Int)), (2, _), (3, _)] ?_
      replace hpq0 := hpq0.mono PutR.mono hle1
      replace hlq0 := fun k hk => (hlq0 k hk).mono PieceR.mono hle1
      replace hpq1 := hpq1.mono PutR.mono hle1
      replace hlq1 := fun k hk => (hlq1 k hk).mono PieceR.mono hle1
      refine .seq <| .seq <| .region rfl <| .m rfl rfl <| .p .no rfl (.fa rfl f_97_1) <| .ld .no rfl (.s rfl (.tl .hd) a_92 rfl) <| .p .no rfl (.lenR rfl rfl rfl e_92 hpq0) <| .b rfl rfl rfl rfl <| .nil <| sq_n <| .cond rfl (fun h5 => ?_) (fun h5 => ?_)
      · have kh5 := dT h5
        obtain ⟨y1, hy1⟩ := getK (l := p0.puts) (k := k1_1) kh5
        rw [dc hy1, F_r04_sameVersion_l1] at hF
        refine .skip <| sq_n <| .seq <| .block <| .seq <| .seq <| .draw (tb := [r0 0 0, r0 1 0, r0 0 0, r0 7 0, r0 15 0, r0 31 0, r0 0 0, r0 64 0, r0 0 0, r0 448 0, r0 960 0, r0 1984 0, r1 4095 0, r1 8191 0, r0 16383 0, r0 32767 0, r0 16383 0, r0 131071 0, r0 262143 0, r0 524287 0, r0 1048575 0, r0 16383 0, r0 2113535 0, r0 16383 0, r0 14696447 0, r0 31473663 0, r0 65028095 0, r0 132136959 0, r1 268435455 0, r1 536870911 0]) rfl (by kernel_rfl) (by kernel_rfl) ?_
        refine .p .no rfl (.fa rfl f_97_1) rfl rfl rfl <| .y rfl rfl rfl (.s rfl (.tl .hd) a_92 rfl) <| .m rfl rfl <| .ixk (j := k1_1) .no rfl rfl hpq0 rfl e_92 hy1 ?_
        rintro b6 o6 _ hq6 ⟨v6, rfl, ht6⟩
        have lh6_1 := ht6.1
        refine .p .no rfl (.fa rfl f_170_0) rfl rfl rfl <| .y rfl rfl rfl (.ps 0 rfl hq6 rfl a_3 rfl) <| .p .no rfl (.fa rfl f_97_1) rfl rfl rfl <| .y rfl rfl rfl (.s rfl .hd a_92 rfl) <| .m rfl rfl ?_
        obtain ⟨y7, hy7, hF⟩ := bS hF
        have hj7 := atN_lt hy7
        refine .ixk (j := k1_1) .no rfl rfl hpq1 rfl e_92 hy7 ?_
        rintro b7 o7 _ hq7 ⟨v7, rfl, ht7⟩
        have lh7_1 := ht7.1
        refine .p .no rfl (.fa rfl f_170_0) rfl rfl rfl <| .y rfl rfl rfl (.ps 0 rfl hq7 rfl a_3 rfl) <| .b rfl rfl rfl rfl <| .m rfl rfl <| .split (t := 44) rfl (fun h8 => ?_) (fun h8 => ?_)
        · have kh8 := dF (nT h8)
          have hF := cT h8 hF
          refine .skip (.yes rfl rfl h8) rfl rfl <| .skip (.yes rfl rfl h8) rfl rfl <| .skip (.yes rfl rfl h8) rfl rfl <| .skip (.yes rfl rfl h8) rfl rfl <| .skip (.yes rfl rfl h8) rfl rfl <| .skip (.yes rfl rfl h8) rfl rfl <| .skip (.yes rfl rfl h8) rfl rfl <| .skip (.yes rfl rfl h8) rfl rfl <| .skip (.yes rfl rfl h8) rfl rfl <| .skip (.yes rfl rfl h8) rfl rfl <| .skip (.yes rfl rfl h8) rfl rfl <| .skip (.yes rfl rfl h8) rfl rfl <| .skip (.yes rfl rfl h8) rfl rfl <| .skip (.yes rfl rfl h8) rfl rfl <| .skip (.yes rfl rfl h8) rfl rfl <| .p .no rfl (.pickT rfl h8 rfl) rfl rfl rfl <| .nil <| sq_n <| .condT rfl rfl <| .seq <| .region rfl <| .z rfl rfl <| .nil <| sq_n <| .ret <| sq_r <| bq_r <| sq_r <| lq_r <| bq_r <| sq_r ?_
          obtain rfl := sI hF
          have hF := hG1
          obtain rfl := sI hF
          refine retQ_r hle1 (.tmp rfl .nil) rfl ?_
          rfl
        · have kh8 := dT (nF h8)
          have hF := cF h8 hF
          refine .p (.yes rfl rfl h8) rfl (.fa rfl f_97_1) rfl rfl rfl <| .ld (k := 0) (.yes rfl rfl h8) rfl rfl rfl trivial (.s rfl (.tl .hd) a_92 rfl) <| .p (.yes rfl rfl h8) rfl (.move rfl) rfl rfl rfl <| .ixk (j := k1_1) (.yes rfl rfl h8) rfl rfl hpq0 rfl e_92 hy1 ?_
          rintro b9 o9 _ hq9 ⟨v9, rfl, ht9⟩
          have lh9_1 := ht9.1
          refine .p (.yes rfl rfl h8) rfl (.fa rfl f_170_1) rfl rfl rfl <| .ld (k := 0) (.yes rfl rfl h8) rfl rfl rfl trivial (.ps 1 rfl hq9 rfl a_168 rfl) <| .p (.yes rfl rfl h8) rfl (.lenR rfl rfl rfl e_168 ht9) rfl rfl rfl <| .p (.yes rfl rfl h8) rfl (.fa rfl f_97_1) rfl rfl rfl <| .ld (k := 0) (.yes rfl rfl h8) rfl rfl rfl trivial (.s rfl .hd a_92 rfl) <| .p (.yes rfl rfl h8) rfl (.move rfl) rfl rfl rfl <| .ixk (j := k1_1) (.yes rfl rfl h8) rfl rfl hpq1 rfl e_92 hy7 ?_
          rintro b10 o10 _ hq10 ⟨v10, rfl, ht10⟩
          have lh10_1 := ht10.1
          refine .p (.yes rfl rfl h8) rfl (.fa rfl f_170_1) rfl rfl rfl <| .ld (k := 0) (.yes rfl rfl h8) rfl rfl rfl trivial (.ps 1 rfl hq10 rfl a_168 rfl) <| .p (.yes rfl rfl h8) rfl (.lenR rfl rfl rfl e_168 ht10) rfl rfl rfl <| .p (.yes rfl rfl h8) rfl (.bin rfl rfl rfl) rfl rfl rfl <| .p .no rfl (.pickF rfl h8 rfl) rfl rfl rfl <| .nil <| sq_n <| .cond rfl (fun h11 => ?_) (fun h11 => ?_)
          · have kh11 := dF (nT h11)
            have hF := cT h11 hF
            refine .seq <| .region rfl <| .z rfl rfl <| .nil <| sq_n <| .ret <| sq_r <| bq_r <| sq_r <| lq_r <| bq_r <| sq_r ?_
            obtain rfl := sI hF
            have hF := hG1
            obtain rfl := sI hF
            refine retQ_r hle1 (.tmp rfl .nil) rfl ?_
            rfl
          · have kh11 := dT (nF h11)
            have hF := cF h11 hF
            refine .skip <| sq_n <| .seq <| .region rfl <| .z rfl rfl <| .nil <| sq_n <| .block ?_
            obtain ⟨o2, hF, hG2⟩ := bS hF
            refine .loopx (α := L_r04_sameVersion_2) [(2, _), (3, _), (5, _)] _ (fun fx x => (6, .i .i64 (x.k2_1 : Int)) :: fx) (fun mx _ => mx) (fun x g' => x.k2_1 ≤ y1.tests.length ∧ F_r04_sameVersion_l2 y7 (y1.tests.drop x.k2_1) x.k2_1 = some o2) (fun x => y1.tests.length - x.k2_1) (L_r04_sameVersion_2.mk 0) ⟨rfl, rfl, rfl, rfl, trivial⟩ (List.Sublist.refl _) ⟨(by first | omega | (dsimp only; omega)), hF⟩ ?_
            intro x2 g2 hle2 hJ2
            obtain ⟨k2_1⟩ := x2
            try dsimp only at hJ2
            obtain ⟨hk2, hF⟩ := hJ2
            refine .al0 [(6, .i .i64 (k2_1 : Int)), (2, _), (3, _), (5, _)] ?_
            replace hpq0 := hpq0.mono PutR.mono hle2
            replace hlq0 := fun k hk => (hlq0 k hk).mono PieceR.mono hle2
            replace hpq1 := hpq1.mono PutR.mono hle2
            replace hlq1 := fun k hk => (hlq1 k hk).mono PieceR.mono hle2
            replace hq6 := hq6.mono hle2
            replace ht6 := ht6.mono TestR.mono hle2
            replace hq7 := hq7.mono hle2
            replace ht7 := ht7.mono TestR.mono hle2
            replace hq9 := hq9.mono hle2
            replace ht9 := ht9.mono TestR.mono hle2
            replace hq10 := hq10.mono hle2
            replace ht10 := ht10.mono TestR.mono hle2
            refine .seq <| .seq <| .region rfl <| .m rfl rfl <| .p .no rfl (.fa rfl f_97_1) <| .ld .no rfl (.s rfl (.tl .hd) a_92 rfl) <| .m rfl rfl <| .ixk (j := k1_1) .no rfl rfl hpq0 rfl e_92 hy1 ?_
            rintro b12 o12 _ hq12 ⟨v12, rfl, ht12⟩
            have lh12_1 := ht12.1
            refine .p .no rfl (.fa rfl f_170_1) <| .ld .no rfl (.ps 1 rfl hq12 rfl a_168 rfl) <| .p .no rfl (.lenR rfl rfl rfl e_168 ht12) <| .b rfl rfl rfl rfl <| .nil <| sq_n <| .cond rfl (fun h13 => ?_) (fun h13 => ?_)
            · have kh13 := dT h13
              obtain ⟨y2, hy2⟩ := getK (l := y1.tests) (k := k2_1) kh13
              rw [dc hy2, F_r04_sameVersion_l2] at hF
              refine .skip <| sq_n <| .seq <| .block <| .seq <| .draw (tb := [r0 0 0, r0 1 0, r0 0 0, r0 7 0, r0 15 0, r0 31 0, r0 0 0, r0 127 0, r0 255 0, r0 0 0, r0 512 0, r0 0 0, r0 3584 0, r0 7680 0, r0 15872 0, r0 0 0, r0 65024 0, r0 130560 0, r1 262143 0]) rfl (by kernel_rfl) (by kernel_rfl) ?_
              refine .p .no rfl (.fa rfl f_97_1) rfl rfl rfl <| .y rfl rfl rfl (.s rfl (.tl .hd) a_92 rfl) <| .m rfl rfl <| .ixk (j := k1_1) .no rfl rfl hpq0 rfl e_92 hy1 ?_
              rintro b14 o14 _ hq14 ⟨v14, rfl, ht14⟩
              have lh14_1 := ht14.1
              refine .p .no rfl (.fa rfl f_170_1) rfl rfl rfl <| .y rfl rfl rfl (.ps 1 rfl hq14 rfl a_168 rfl) <| .m rfl rfl <| .ixk (j := k2_1) .no rfl rfl ht14 rfl e_168 hy2 ?_
              rintro b15 o15 _ hq15 rfl
              refine .y rfl rfl rfl (.pa 0 (vs := [_, _, _]) rfl hq15 rfl a_172 s_172 rfl rfl) <| .p .no rfl (.fa rfl f_97_1) rfl rfl rfl <| .y rfl rfl rfl (.s rfl .hd a_92 rfl) <| .m rfl rfl <| .ixk (j := k1_1) .no rfl rfl hpq1 rfl e_92 hy7 ?_
              rintro b16 o16 _ hq16 ⟨v16, rfl, ht16⟩
              have lh16_1 := ht16.1
              refine .p .no rfl (.fa rfl f_170_1) rfl rfl rfl <| .y rfl rfl rfl (.ps 1 rfl hq16 rfl a_168 rfl) <| .m rfl rfl ?_
              obtain ⟨y17, hy17, hF⟩ := bS hF
              have hj17 := atN_lt hy17
              refine .ixk (j := k2_1) .no rfl rfl ht16 rfl e_168 hy17 ?_
              rintro b17 o17 _ hq17 rfl
              refine .y rfl rfl rfl (.pa 0 (vs := [_, _, _]) rfl hq17 rfl a_172 s_172 rfl rfl) <| .p .no rfl (.binE rfl rfl (binV_neq (by kernel_rfl) (eq_172 _ _ _ _ _ _))) rfl rfl rfl ?_
              refine .nil <| sq_n <| .cond rfl (fun h18 => ?_) (fun h18 => ?_)
              · have kh18 := (nT h18)
                have hF := cT h18 hF
                refine .seq <| .region rfl <| .z rfl rfl <| .nil <| sq_n <| .ret <| bq_r <| sq_r <| lq_r <| bq_r <| bq_r <| sq_r <| lq_r <| bq_r <| sq_r ?_
                obtain rfl := sI hF
                have hF := hG2
                obtain rfl := sI hF
                have hF := hG1
                obtain rfl := sI hF
                refine retQ_r (hle1.trans hle2) (.tmp rfl .nil) rfl ?_
                rfl
              · have kh18 := (nF h18)
                have hF := cF h18 hF
                refine .skip <| bq_n <| sq_n <| .region rfl <| .m rfl rfl <| .p .no rfl (.inc1 rfl rfl (by omega)) <| .z rfl rfl <| .nil <| loopQ_n (L_r04_sameVersion_2.mk (k2_1 + 1)) ⟨rfl, rfl, rfl, rfl, trivial⟩ (List.Sublist.refl _) (Le.refl _) ?_ ?_
                · exact ⟨(atN_lt hy2), hF⟩
                · simp only; omega
            · have kh13 := dF h13
              rw [dn (by omega), F_r04_sameVersion_l2] at hF
              obtain rfl := sI hF
              have hF := hG2
              refine .exit <| sq_e <| lq_e <| bq_x rfl <| bq_n <| sq_n <| .region rfl <| .m rfl rfl <| .p .no rfl (.inc1 rfl rfl (by omega)) <| .z rfl rfl <| .nil <| loopQ_n (L_r04_sameVersion_1.mk (k1_1 + 1)) ⟨rfl, rfl, rfl, trivial⟩ (List.Sublist.refl _) hle2 ?_ ?_
              · exact ⟨(atN_lt hy1), hF⟩
              · simp only; omega
      · have kh5 := dF h5
        rw [dn (by omega), F_r04_sameVersion_l1] at hF
        obtain rfl := sI hF
        have hF := hG1
        refine .exit <| sq_e <| lq_e <| bq_x rfl <| sq_n <| .seq <| .seq <| .region rfl <| .z rfl rfl <| .nil <| sq_n <| .block <| .unroll <| .seq <| .seq <| .region rfl <| .m rfl rfl <| .b rfl rfl rfl rfl <| .nil <| sq_n <| .condT rfl (by decide) <| .skip <| sq_n <| .seq <| .block <| .seq <| .region rfl <| .z rfl rfl <| .nil <| sq_n <| .block <| .unroll <| .seq <| .seq <| .region rfl <| .m rfl rfl <| .b rfl rfl rfl rfl <| .nil <| sq_n ?_
        refine .condT rfl (by decide) <| .skip <| sq_n <| .seq <| .block <| .seq <| .seq <| .draw (tb := [r0 0 0, r0 0 0, r0 0 0, r0 5 0, r0 15 0, r0 31 0, r0 63 0, r0 0 0, r0 0 0, r0 0 0, r0 640 0, r0 1920 0, r0 3968 0, r0 8064 0, r1 16383 0]) rfl (by kernel_rfl) (by kernel_rfl) ?_
        refine .m rfl rfl <| .m rfl rfl <| .p .no rfl (.fa rfl f_97_2) rfl rfl rfl <| .p .no rfl (.ixa (j := 0) rfl rfl ae_95 (by decide)) rfl rfl rfl <| .p .no rfl (.ixa (j := 0) rfl rfl ae_94 (by decide)) rfl rfl rfl <| .y rfl rfl rfl (.s rfl (.tl .hd) a_93 rfl) <| .p .no rfl (.lenR rfl rfl rfl e_93 (hlq0 0 (by decide))) rfl rfl rfl <| .m rfl rfl <| .m rfl rfl <| .p .no rfl (.fa rfl f_97_2) rfl rfl rfl <| .p .no rfl (.ixa (j := 0) rfl rfl ae_95 (by decide)) rfl rfl rfl <| .p .no rfl (.ixa (j := 0) rfl rfl ae_94 (by decide)) rfl rfl rfl <| .y rfl rfl rfl (.s rfl .hd a_93 rfl) <| .p .no rfl (.lenR rfl rfl rfl e_93 (hlq1 0 (by decide))) rfl rfl rfl <| .b rfl rfl rfl rfl <| .nil <| sq_n <| .cond rfl (fun h19 => ?_) (fun h19 => ?_)
        · have kh19 := dF (nT h19)
          have hF := cT h19 hF
          refine .seq <| .region rfl <| .z rfl rfl <| .nil <| sq_n <| .ret <| sq_r <| bq_r <| sq_r <| sq_r <| bq_r <| bq_r <| sq_r <| sq_r <| bq_r <| sq_r ?_
          obtain rfl := sI hF
          refine retQ_r hle1 (.tmp rfl .nil) rfl ?_
          rfl
        · have kh19 := dT (nF h19)
          have hF := cF h19 hF
          refine .skip <| sq_n <| .seq <| .region rfl <| .z rfl rfl <| .nil <| sq_n <| .block ?_
          obtain ⟨o3, hF, hG3⟩ := bS hF
          refine .loopx (α := L_r04_sameVersion_3) [(2, _), (3, _), (7, _), (8, _)] _ (fun fx x => (9, .i .i64 (x.k3_1 : Int)) :: fx) (fun mx _ => mx) (fun x g' => x.k3_1 ≤ (p0.ln 0).length ∧ F_r04_sameVersion_l3 p1 ((p0.ln 0).drop x.k3_1) x.k3_1 = some o3) (fun x => (p0.ln 0).length - x.k3_1) (L_r04_sameVersion_3.mk 0) ⟨rfl, rfl, rfl, rfl, rfl, trivial⟩ (List.Sublist.refl _) ⟨(by first | omega | (dsimp only; omega)), hF⟩ ?_
          intro x3 g3 hle3 hJ3
          obtain ⟨k3_1⟩ := x3
          try dsimp only at hJ3
          obtain ⟨hk3, hF⟩ := hJ3
          refine .al0 [(9, .i .i64 (k3_1 : Int)), (2, _), (3, _), (7, _), (8, _)] ?_
          replace hpq0 := hpq0.mono PutR.mono hle3
          replace hlq0 := fun k hk => (hlq0 k hk).mono PieceR.mono hle3
          replace hpq1 := hpq1.mono PutR.mono hle3
          replace hlq1 := fun k hk => (hlq1 k hk).mono PieceR.mono hle3
          refine .seq <| .seq <| .region rfl <| .m rfl rfl <| .m rfl rfl <| .m rfl rfl <| .p .no rfl (.fa rfl f_97_2) <| .p .no rfl (.ixa (j := 0) rfl rfl ae_95 (by decide)) <| .p .no rfl (.ixa (j := 0) rfl rfl ae_94 (by decide)) <| .ld .no rfl (.s rfl (.tl .hd) a_93 rfl) <| .p .no rfl (.lenR rfl rfl rfl e_93 (hlq0 0 (by decide))) <| .b rfl rfl rfl rfl <| .nil <| sq_n <| .cond rfl (fun h20 => ?_) (fun h20 => ?_)
          · have kh20 := dT h20
            obtain ⟨y3, hy3⟩ := getK (l := (p0.ln 0)) (k := k3_1) kh20
            rw [dc hy3, F_r04_sameVersion_l3] at hF
            refine .skip <| sq_n <| .seq <| .block <| .seq <| .draw (tb := [r0 0 0, r0 0 0, r0 0 0, r0 5 0, r0 15 0, r0 31 0, r0 0 0, r0 127 0, r0 255 0, r0 0 0, r0 0 0, r0 0 0, r0 2560 0, r0 7680 0, r0 15872 0, r0 0 0, r0 65024 0, r0 130560 0, r1 262143 0]) rfl (by kernel_rfl) (by kernel_rfl) ?_
            refine .m rfl rfl <| .m rfl rfl <| .p .no rfl (.fa rfl f_97_2) rfl rfl rfl <| .p .no rfl (.ixa (j := 0) rfl rfl ae_95 (by decide)) rfl rfl rfl <| .p .no rfl (.ixa (j := 0) rfl rfl ae_94 (by decide)) rfl rfl rfl <| .y rfl rfl rfl (.s rfl (.tl .hd) a_93 rfl) <| .m rfl rfl <| .ixk (j := k3_1) .no rfl rfl (hlq0 0 (by decide)) rfl e_93 hy3 ?_
            rintro b21 o21 _ hq21 rfl
            refine .y rfl rfl rfl (.pa 0 (vs := [_, _, _]) rfl hq21 rfl a_157 s_157 rfl rfl) <| .m rfl rfl <| .m rfl rfl <| .p .no rfl (.fa rfl f_97_2) rfl rfl rfl <| .p .no rfl (.ixa (j := 0) rfl rfl ae_95 (by decide)) rfl rfl rfl <| .p .no rfl (.ixa (j := 0) rfl rfl ae_94 (by decide)) rfl rfl rfl <| .y rfl rfl rfl (.s rfl .hd a_93 rfl) <| .m rfl rfl ?_
            obtain ⟨y22, hy22, hF⟩ := bS hF
            have hj22 := atN_lt hy22
            refine .ixk (j := k3_1) .no rfl rfl (hlq1 0 (by decide)) rfl e_93 hy22 ?_
            rintro b22 o22 _ hq22 rfl
            refine .y rfl rfl rfl (.pa 0 (vs := [_, _, _]) rfl hq22 rfl a_157 s_157 rfl rfl) <| .p .no rfl (.binE rfl rfl (binV_neq (by kernel_rfl) (eq_157 _ _ _ _ _ _))) rfl rfl rfl ?_
            refine .nil <| sq_n <| .cond rfl (fun h23 => ?_) (fun h23 => ?_)
            · have kh23 := (nT h23)
              have hF := cT h23 hF
              refine .seq <| .region rfl <| .z rfl rfl <| .nil <| sq_n <| .ret <| bq_r <| sq_r <| lq_r <| bq_r <| bq_r <| sq_r <| sq_r <| bq_r <| bq_r <| sq_r <| sq_r <| bq_r <| sq_r ?_
              obtain rfl := sI hF
              have hF := hG3
              obtain rfl := sI hF
              refine retQ_r (hle1.trans hle3) (.tmp rfl .nil) rfl ?_
              rfl
            · have kh23 := (nF h23)
              have hF := cF h23 hF
              refine .skip <| bq_n <| sq_n <| .region rfl <| .m rfl rfl <| .p .no rfl (.inc1 rfl rfl (by omega)) <| .z rfl rfl <| .nil <| loopQ_n (L_r04_sameVersion_3.mk (k3_1 + 1)) ⟨rfl, rfl, rfl, rfl, rfl, trivial⟩ (List.Sublist.refl _) (Le.refl _) ?_ ?_
              · exact ⟨(atN_lt hy3), hF⟩
              · simp only; omega
          · have kh20 := dF h20
            rw [dn (by omega), F_r04_sameVersion_l3] at hF
            obtain rfl := sI hF
            have hF := hG3
            refine .exit <| sq_e <| lq_e <| bq_x rfl <| bq_n <| sq_n <| .region rfl <| .m rfl rfl <| .p .no rfl (.addL (c := 1) rfl rfl rfl (by decide)) <| .z rfl rfl <| .nil <| sq_n <| .unroll <| .seq <| .seq <| .region rfl <| .m rfl rfl <| .b rfl rfl rfl rfl <| .nil <| sq_n <| .condT rfl (by decide) <| .skip <| sq_n <| .seq <| .block <| .seq <| .seq <| .draw (tb := [r0 0 0, r0 0 0, r0 0 0, r0 5 0, r0 15 0, r0 31 0, r0 63 0, r0 0 0, r0 0 0, r0 0 0, r0 640 0, r0 1920 0, r0 3968 0, r0 8064 0, r1 16383 0]) rfl (by kernel_rfl) (by kernel_rfl) ?_
            refine .m rfl rfl <| .m rfl rfl <| .p .no rfl (.fa rfl f_97_2) rfl rfl rfl <| .p .no rfl (.ixa (j := 0) rfl rfl ae_95 (by decide)) rfl rfl rfl <| .p .no rfl (.ixa (j := 1) rfl rfl ae_94 (by decide)) rfl rfl rfl <| .y rfl rfl rfl (.s rfl (.tl .hd) a_93 rfl) <| .p .no rfl (.lenR rfl rfl rfl e_93 (hlq0 1 (by decide))) rfl rfl rfl <| .m rfl rfl <| .m rfl rfl <| .p .no rfl (.fa rfl f_97_2) rfl rfl rfl <| .p .no rfl (.ixa (j := 0) rfl rfl ae_95 (by decide)) rfl rfl rfl <| .p .no rfl (.ixa (j := 1) rfl rfl ae_94 (by decide)) rfl rfl rfl <| .y rfl rfl rfl (.s rfl .hd a_93 rfl) <| .p .no rfl (.lenR rfl rfl rfl e_93 (hlq1 1 (by decide))) rfl rfl rfl <| .b rfl rfl rfl rfl <| .nil <| sq_n <| .cond rfl (fun h24 => ?_) (fun h24 => ?_)
            · have kh24 := dF (nT h24)
              have hF := cT h24 hF
              refine .seq <| .region rfl <| .z rfl rfl <| .nil <| sq_n <| .ret <| sq_r <| bq_r <| sq_r <| sq_r <| bq_r <| bq_r <| sq_r <| sq_r <| bq_r <| sq_r ?_
              obtain rfl := sI hF
              refine retQ_r (hle1.trans hle3) (.tmp rfl .nil) rfl ?_
              rfl
            · have kh24 := dT (nF h24)
              have hF := cF h24 hF
              refine .skip <| sq_n <| .seq <| .region rfl <| .z rfl rfl <| .nil <| sq_n <| .block ?_
              obtain ⟨o4, hF, hG4⟩ := bS hF
              refine .loopx (α := L_r04_sameVersion_4) [(2, _), (3, _), (7, _), (8, _)] _ (fun fx x => (9, .i .i64 (x.k4_1 : Int)) :: fx) (fun mx _ => mx) (fun x g' => x.k4_1 ≤ (p0.ln 1).length ∧ F_r04_sameVersion_l4 p1 ((p0.ln 1).drop x.k4_1) x.k4_1 = some o4) (fun x => (p0.ln 1).length - x.k4_1) (L_r04_sameVersion_4.mk 0) ⟨rfl, rfl, rfl, rfl, rfl, trivial⟩ (List.Sublist.refl _) ⟨(by first | omega | (dsimp only; omega)), hF⟩ ?_
              intro x4 g4 hle4 hJ4
              obtain ⟨k4_1⟩ := x4
              try dsimp only at hJ4
              obtain ⟨hk4, hF⟩ := hJ4
              refine .al0 [(9, .i .i64 (k4_1 : Int)), (2, _), (3, _), (7, _), (8, _)] ?_
              replace hpq0 := hpq0.mono PutR.mono hle4
              replace hlq0 := fun k hk => (hlq0 k hk).mono PieceR.mono hle4
              replace hpq1 := hpq1.mono PutR.mono hle4
              replace hlq1 := fun k hk => (hlq1 k hk).mono PieceR.mono hle4
              refine .seq <| .seq <| .region rfl <| .m rfl rfl <| .m rfl rfl <| .m rfl rfl <| .p .no rfl (.fa rfl f_97_2) <| .p .no rfl (.ixa (j := 0) rfl rfl ae_95 (by decide)) <| .p .no rfl (.ixa (j := 1) rfl rfl ae_94 (by decide)) <| .ld .no rfl (.s rfl (.tl .hd) a_93 rfl) <| .p .no rfl (.lenR rfl rfl rfl e_93 (hlq0 1 (by decide))) <| .b rfl rfl rfl rfl <| .nil <| sq_n <| .cond rfl (fun h25 => ?_) (fun h25 => ?_)
              · have kh25 := dT h25
                obtain ⟨y4, hy4⟩ := getK (l := (p0.ln 1)) (k := k4_1) kh25
                rw [dc hy4, F_r04_sameVersion_l4] at hF
                refine .skip <| sq_n <| .seq <| .block <| .seq <| .draw (tb := [r0 0 0, r0 0 0, r0 0 0, r0 5 0, r0 15 0, r0 31 0, r0 0 0, r0 127 0, r0 255 0, r0 0 0, r0 0 0, r0 0 0, r0 2560 0, r0 7680 0, r0 15872 0, r0 0 0, r0 65024 0, r0 130560 0, r1 262143 0]) rfl (by kernel_rfl) (by kernel_rfl) ?_
                refine .m rfl rfl <| .m rfl rfl <| .p .no rfl (.fa rfl f_97_2) rfl rfl rfl <| .p .no rfl (.ixa (j := 0) rfl rfl ae_95 (by decide)) rfl rfl rfl <| .p .no rfl (.ixa (j := 1) rfl rfl ae_94 (by decide)) rfl rfl rfl <| .y rfl rfl rfl (.s rfl (.tl .hd) a_93 rfl) <| .m rfl rfl <| .ixk (j := k4_1) .no rfl rfl (hlq0 1 (by decide)) rfl e_93 hy4 ?_
                rintro b26 o26 _ hq26 rfl
                refine .y rfl rfl rfl (.pa 0 (vs := [_, _, _]) rfl hq26 rfl a_157 s_157 rfl rfl) <| .m rfl rfl <| .m rfl rfl <| .p .no rfl (.fa rfl f_97_2) rfl rfl rfl <| .p .no rfl (.ixa (j := 0) rfl rfl ae_95 (by decide)) rfl rfl rfl <| .p .no rfl (.ixa (j := 1) rfl rfl ae_94 (by decide)) rfl rfl rfl <| .y rfl rfl rfl (.s rfl .hd a_93 rfl) <| .m rfl rfl ?_
                obtain ⟨y27, hy27, hF⟩ := bS hF
                have hj27 := atN_lt hy27
                refine .ixk (j := k4_1) .no rfl rfl (hlq1 1 (by decide)) rfl e_93 hy27 ?_
                rintro b27 o27 _ hq27 rfl
                refine .y rfl rfl rfl (.pa 0 (vs := [_, _, _]) rfl hq27 rfl a_157 s_157 rfl rfl) <| .p .no rfl (.binE rfl rfl (binV_neq (by kernel_rfl) (eq_157 _ _ _ _ _ _))) rfl rfl rfl ?_
                refine .nil <| sq_n <| .cond rfl (fun h28 => ?_) (fun h28 => ?_)
                · have kh28 := (nT h28)
                  have hF := cT h28 hF
                  refine .seq <| .region rfl <| .z rfl rfl <| .nil <| sq_n <| .ret <| bq_r <| sq_r <| lq_r <| bq_r <| bq_r <| sq_r <| sq_r <| bq_r <| bq_r <| sq_r <| sq_r <| bq_r <| sq_r ?_
                  obtain rfl := sI hF
                  have hF := hG4
                  obtain rfl := sI hF
                  refine retQ_r ((hle1.trans hle3).trans hle4) (.tmp rfl .nil) rfl ?_
                  rfl
                · have kh28 := (nF h28)
                  have hF := cF h28 hF
                  refine .skip <| bq_n <| sq_n <| .region rfl <| .m rfl rfl <| .p .no rfl (.inc1 rfl rfl (by omega)) <| .z rfl rfl <| .nil <| loopQ_n (L_r04_sameVersion_4.mk (k4_1 + 1)) ⟨rfl, rfl, rfl, rfl, rfl, trivial⟩ (List.Sublist.refl _) (Le.refl _) ?_ ?_
                  · exact ⟨(atN_lt hy4), hF⟩
                  · simp only; omega
              · have kh25 := dF h25
                rw [dn (by omega), F_r04_sameVersion_l4] at hF
                obtain rfl := sI hF
                have hF := hG4
                refine .exit <| sq_e <| lq_e <| bq_x rfl <| bq_n <| sq_n <| .region rfl <| .m rfl rfl <| .p .no rfl (.addL (c := 2) rfl rfl rfl (by decide)) <| .z rfl rfl <| .nil <| sq_n <| .unroll <| .seq <| .seq <| .region rfl <| .m rfl rfl <| .b rfl rfl rfl rfl <| .nil <| sq_n <| .condT rfl (by decide) <| .skip <| sq_n <| .seq <| .block <| .seq <| .seq <| .draw (tb := [r0 0 0, r0 0 0, r0 0 0, r0 5 0, r0 15 0, r0 31 0, r0 63 0, r0 0 0, r0 0 0, r0 0 0, r0 640 0, r0 1920 0, r0 3968 0, r0 8064 0, r1 16383 0]) rfl (by kernel_rfl) (by kernel_rfl) ?_
                refine .m rfl rfl <| .m rfl rfl <| .p .no rfl (.fa rfl f_97_2) rfl rfl rfl <| .p .no rfl (.ixa (j := 0) rfl rfl ae_95 (by decide)) rfl rfl rfl <| .p .no rfl (.ixa (j := 2) rfl rfl ae_94 (by decide)) rfl rfl rfl <| .y rfl rfl rfl (.s rfl (.tl .hd) a_93 rfl) <| .p .no rfl (.lenR rfl rfl rfl e_93 (hlq0 2 (by decide))) rfl rfl rfl <| .m rfl rfl <| .m rfl rfl <| .p .no rfl (.fa rfl f_97_2) rfl rfl rfl <| .p .no rfl (.ixa (j := 0) rfl rfl ae_95 (by decide)) rfl rfl rfl <| .p .no rfl (.ixa (j := 2) rfl rfl ae_94 (by decide)) rfl rfl rfl <| .y rfl rfl rfl (.s rfl .hd a_93 rfl) <| .p .no rfl (.lenR rfl rfl rfl e_93 (hlq1 2 (by decide))) rfl rfl rfl <| .b rfl rfl rfl rfl <| .nil <| sq_n <| .cond rfl (fun h29 => ?_) (fun h29 => ?_)
                · have kh29 := dF (nT h29)
                  have hF := cT h29 hF
                  refine .seq <| .region rfl <| .z rfl rfl <| .nil <| sq_n <| .ret <| sq_r <| bq_r <| sq_r <| sq_r <| bq_r <| bq_r <| sq_r <| sq_r <| bq_r <| sq_r ?_
                  obtain rfl := sI hF
                  refine retQ_r ((hle1.trans hle3).trans hle4) (.tmp rfl .nil) rfl ?_
                  rfl
                · have kh29 := dT (nF h29)
                  have hF := cF h29 hF
                  refine .skip <| sq_n <| .seq <| .region rfl <| .z rfl rfl <| .nil <| sq_n <| .block ?_
                  obtain ⟨o5, hF, hG5⟩ := bS hF
                  refine .loopx (α := L_r04_sameVersion_5) [(2, _), (3, _), (7, _), (8, _)] _ (fun fx x => (9, .i .i64 (x.k5_1 : Int)) :: fx) (fun mx _ => mx) (fun x g' => x.k5_1 ≤ (p0.ln 2).length ∧ F_r04_sameVersion_l5 p1 ((p0.ln 2).drop x.k5_1) x.k5_1 = some o5) (fun x => (p0.ln 2).length - x.k5_1) (L_r04_sameVersion_5.mk 0) ⟨rfl, rfl, rfl, rfl, rfl, trivial⟩ (List.Sublist.refl _) ⟨(by first | omega | (dsimp only; omega)), hF⟩ ?_
                  intro x5 g5 hle5 hJ5
                  obtain ⟨k5_1⟩ := x5
                  try dsimp only at hJ5
                  obtain ⟨hk5, hF⟩ := hJ5
                  refine .al0 [(9, .i .i64 (k5_1 : Int)), (2, _), (3, _), (7, _), (8, _)] ?_
                  replace hpq0 := hpq0.mono PutR.mono hle5
                  replace hlq0 := fun k hk => (hlq0 k hk).mono PieceR.mono hle5
                  replace hpq1 := hpq1.mono PutR.mono hle5
                  replace hlq1 := fun k hk => (hlq1 k hk).mono PieceR.mono hle5
                  refine .seq <| .seq <| .region rfl <| .m rfl rfl <| .m rfl rfl <| .m rfl rfl <| .p .no rfl (.fa rfl f_97_2) <| .p .no rfl (.ixa (j := 0) rfl rfl ae_95 (by decide)) <| .p .no rfl (.ixa (j := 2) rfl rfl ae_94 (by decide)) <| .ld .no rfl (.s rfl (.tl .hd) a_93 rfl) <| .p .no rfl (.lenR rfl rfl rfl e_93 (hlq0 2 (by decide))) <| .b rfl rfl rfl rfl <| .nil <| sq_n <| .cond rfl (fun h30 => ?_) (fun h30 => ?_)
                  · have kh30 := dT h30
                    obtain ⟨y5, hy5⟩ := getK (l := (p0.ln 2)) (k := k5_1) kh30
                    rw [dc hy5, F_r04_sameVersion_l5] at hF
                    refine .skip <| sq_n <| .seq <| .block <| .seq <| .draw (tb := [r0 0 0, r0 0 0, r0 0 0, r0 5 0, r0 15 0, r0 31 0, r0 0 0, r0 127 0, r0 255 0, r0 0 0, r0 0 0, r0 0 0, r0 2560 0, r0 7680 0, r0 15872 0, r0 0 0, r0 65024 0, r0 130560 0, r1 262143 0]) rfl (by kernel_rfl) (by kernel_rfl) ?_
                    refine .m rfl rfl <| .m rfl rfl <| .p .no rfl (.fa rfl f_97_2) rfl rfl rfl <| .p .no rfl (.ixa (j := 0) rfl rfl ae_95 (by decide)) rfl rfl rfl <| .p .no rfl (.ixa (j := 2) rfl rfl ae_94 (by decide)) rfl rfl rfl <| .y rfl rfl rfl (.s rfl (.tl .hd) a_93 rfl) <| .m rfl rfl <| .ixk (j := k5_1) .no rfl rfl (hlq0 2 (by decide)) rfl e_93 hy5 ?_
                    rintro b31 o31 _ hq31 rfl
                    refine .y rfl rfl rfl (.pa 0 (vs := [_, _, _]) rfl hq31 rfl a_157 s_157 rfl rfl) <| .m rfl rfl <| .m rfl rfl <| .p .no rfl (.fa rfl f_97_2) rfl rfl rfl <| .p .no rfl (.ixa (j := 0) rfl rfl ae_95 (by decide)) rfl rfl rfl <| .p .no rfl (.ixa (j := 2) rfl rfl ae_94 (by decide)) rfl rfl rfl <| .y rfl rfl rfl (.s rfl .hd a_93 rfl) <| .m rfl rfl ?_
                    obtain ⟨y32, hy32, hF⟩ := bS hF
                    have hj32 := atN_lt hy32
                    refine .ixk (j := k5_1) .no rfl rfl (hlq1 2 (by decide)) rfl e_93 hy32 ?_
                    rintro b32 o32 _ hq32 rfl
                    refine .y rfl rfl rfl (.pa 0 (vs := [_, _, _]) rfl hq32 rfl a_157 s_157 rfl rfl) <| .p .no rfl (.binE rfl rfl (binV_neq (by kernel_rfl) (eq_157 _ _ _ _ _ _))) rfl rfl rfl ?_
                    refine .nil <| sq_n <| .cond rfl (fun h33 => ?_) (fun h33 => ?_)
                    · have kh33 := (nT h33)
                      have hF := cT h33 hF
                      refine .seq <| .region rfl <| .z rfl rfl <| .nil <| sq_n <| .ret <| bq_r <| sq_r <| lq_r <| bq_r <| bq_r <| sq_r <| sq_r <| bq_r <| bq_r <| sq_r <| sq_r <| bq_r <| sq_r ?_
                      obtain rfl := sI hF
                      have hF := hG5
                      obtain rfl := sI hF
                      refine retQ_r (((hle1.trans hle3).trans hle4).trans hle5) (.tmp rfl .nil) rfl ?_
                      rfl
                    · have kh33 := (nF h33)
                      have hF := cF h33 hF
                      refine .skip <| bq_n <| sq_n <| .region rfl <| .m rfl rfl <| .p .no rfl (.inc1 rfl rfl (by omega)) <| .z rfl rfl <| .nil <| loopQ_n (L_r04_sameVersion_5.mk (k5_1 + 1)) ⟨rfl, rfl, rfl, rfl, rfl, trivial⟩ (List.Sublist.refl _) (Le.refl _) ?_ ?_
                      · exact ⟨(atN_lt hy5), hF⟩
                      · simp only; omega
                  · have kh30 := dF h30
                    rw [dn (by omega), F_r04_sameVersion_l5] at hF
                    obtain rfl := sI hF
                    have hF := hG5
                    refine .exit <| sq_e <| lq_e <| bq_x rfl <| bq_n <| sq_n <| .region rfl <| .m rfl rfl <| .p .no rfl (.addL (c := 3) rfl rfl rfl (by decide)) <| .z rfl rfl <| .nil <| sq_n <| .unroll <| .seq <| .seq <| .region rfl <| .m rfl rfl <| .b rfl rfl rfl rfl <| .nil <| sq_n <| .condT rfl (by decide) <| .skip <| sq_n <| .seq <| .block <| .seq <| .seq <| .draw (tb := [r0 0 0, r0 0 0, r0 0 0, r0 5 0, r0 15 0, r0 31 0, r0 63 0, r0 0 0, r0 0 0, r0 0 0, r0 640 0, r0 1920 0, r0 3968 0, r0 8064 0, r1 16383 0]) rfl (by kernel_rfl) (by kernel_rfl) ?_
                    refine .m rfl rfl <| .m rfl rfl <| .p .no rfl (.fa rfl f_97_2) rfl rfl rfl <| .p .no rfl (.ixa (j := 0) rfl rfl ae_95 (by decide)) rfl rfl rfl <| .p .no rfl (.ixa (j := 3) rfl rfl ae_94 (by decide)) rfl rfl rfl <| .y rfl rfl rfl (.s rfl (.tl .hd) a_93 rfl) <| .p .no rfl (.lenR rfl rfl rfl e_93 (hlq0 3 (by decide))) rfl rfl rfl <| .m rfl rfl <| .m rfl rfl <| .p .no rfl (.fa rfl f_97_2) rfl rfl rfl <| .p .no rfl (.ixa (j := 0) rfl rfl ae_95 (by decide)) rfl rfl rfl <| .p .no rfl (.ixa (j := 3) rfl rfl ae_94 (by decide)) rfl rfl rfl <| .y rfl rfl rfl (.s rfl .hd a_93 rfl) <| .p .no rfl (.lenR rfl rfl rfl e_93 (hlq1 3 (by decide))) rfl rfl rfl <| .b rfl rfl rfl rfl <| .nil <| sq_n <| .cond rfl (fun h34 => ?_) (fun h34 => ?_)
                    · have kh34 := dF (nT h34)
                      have hF := cT h34 hF
                      refine .seq <| .region rfl <| .z rfl rfl <| .nil <| sq_n <| .ret <| sq_r <| bq_r <| sq_r <| sq_r <| bq_r <| bq_r <| sq_r <| sq_r <| bq_r <| sq_r ?_
                      obtain rfl := sI hF
                      refine retQ_r (((hle1.trans hle3).trans hle4).trans hle5) (.tmp rfl .nil) rfl ?_
                      rfl
                    · have kh34 := dT (nF h34)
                      have hF := cF h34 hF
                      refine .skip <| sq_n <| .seq <| .region rfl <| .z rfl rfl <| .nil <| sq_n <| .block ?_
                      obtain ⟨o6, hF, hG6⟩ := bS hF
                      refine .loopx (α := L_r04_sameVersion_6) [(2, _), (3, _), (7, _), (8, _)] _ (fun fx x => (9, .i .i64 (x.k6_1 : Int)) :: fx) (fun mx _ => mx) (fun x g' => x.k6_1 ≤ (p0.ln 3).length ∧ F_r04_sameVersion_l6 p1 ((p0.ln 3).drop x.k6_1) x.k6_1 = some o6) (fun x => (p0.ln 3).length - x.k6_1) (L_r04_sameVersion_6.mk 0) ⟨rfl, rfl, rfl, rfl, rfl, trivial⟩ (List.Sublist.refl _) ⟨(by first | omega | (dsimp only; omega)), hF⟩ ?_
                      intro x6 g6 hle6 hJ6
                      obtain ⟨k6_1⟩ := x6
                      try dsimp only at hJ6
                      obtain ⟨hk6, hF⟩ := hJ6
                      refine .al0 [(9, .i .i64 (k6_1 : Int)), (2, _), (3, _), (7, _), (8, _)] ?_
                      replace hpq0 := hpq0.mono PutR.mono hle6
                      replace hlq0 := fun k hk => (hlq0 k hk).mono PieceR.mono hle6
                      replace hpq1 := hpq1.mono PutR.mono hle6
                      replace hlq1 := fun k hk => (hlq1 k hk).mono PieceR.mono hle6
                      refine .seq <| .seq <| .region rfl <| .m rfl rfl <| .m rfl rfl <| .m rfl rfl <| .p .no rfl (.fa rfl f_97_2) <| .p .no rfl (.ixa (j := 0) rfl rfl ae_95 (by decide)) <| .p .no rfl (.ixa (j := 3) rfl rfl ae_94 (by decide)) <| .ld .no rfl (.s rfl (.tl .hd) a_93 rfl) <| .p .no rfl (.lenR rfl rfl rfl e_93 (hlq0 3 (by decide))) <| .b rfl rfl rfl rfl <| .nil <| sq_n <| .cond rfl (fun h35 => ?_) (fun h35 => ?_)
                      · have kh35 := dT h35
                        obtain ⟨y6, hy6⟩ := getK (l := (p0.ln 3)) (k := k6_1) kh35
                        rw [dc hy6, F_r04_sameVersion_l6] at hF
                        refine .skip <| sq_n <| .seq <| .block <| .seq <| .draw (tb := [r0 0 0, r0 0 0, r0 0 0, r0 5 0, r0 15 0, r0 31 0, r0 0 0, r0 127 0, r0 255 0, r0 0 0, r0 0 0, r0 0 0, r0 2560 0, r0 7680 0, r0 15872 0, r0 0 0, r0 65024 0, r0 130560 0, r1 262143 0]) rfl (by kernel_rfl) (by kernel_rfl) ?_
                        refine .m rfl rfl <| .m rfl rfl <| .p .no rfl (.fa rfl f_97_2) rfl rfl rfl <| .p .no rfl (.ixa (j := 0) rfl rfl ae_95 (by decide)) rfl rfl rfl <| .p .no rfl (.ixa (j := 3) rfl rfl ae_94 (by decide)) rfl rfl rfl <| .y rfl rfl rfl (.s rfl (.tl .hd) a_93 rfl) <| .m rfl rfl <| .ixk (j := k6_1) .no rfl rfl (hlq0 3 (by decide)) rfl e_93 hy6 ?_
                        rintro b36 o36 _ hq36 rfl
                        refine .y rfl rfl rfl (.pa 0 (vs := [_, _, _]) rfl hq36 rfl a_157 s_157 rfl rfl) <| .m rfl rfl <| .m rfl rfl <| .p .no rfl (.fa rfl f_97_2) rfl rfl rfl <| .p .no rfl (.ixa (j := 0) rfl rfl ae_95 (by decide)) rfl rfl rfl <| .p .no rfl (.ixa (j := 3) rfl rfl ae_94 (by decide)) rfl rfl rfl <| .y rfl rfl rfl (.s rfl .hd a_93 rfl) <| .m rfl rfl ?_
                        obtain ⟨y37, hy37, hF⟩ := bS hF
                        have hj37 := atN_lt hy37
                        refine .ixk (j := k6_1) .no rfl rfl (hlq1 3 (by decide)) rfl e_93 hy37 ?_
                        rintro b37 o37 _ hq37 rfl
                        refine .y rfl rfl rfl (.pa 0 (vs := [_, _, _]) rfl hq37 rfl a_157 s_157 rfl rfl) <| .p .no rfl (.binE rfl rfl (binV_neq (by kernel_rfl) (eq_157 _ _ _ _ _ _))) rfl rfl rfl ?_
                        refine .nil <| sq_n <| .cond rfl (fun h38 => ?_) (fun h38 => ?_)
                        · have kh38 := (nT h38)
                          have hF := cT h38 hF
                          refine .seq <| .region rfl <| .z rfl rfl <| .nil <| sq_n <| .ret <| bq_r <| sq_r <| lq_r <| bq_r <| bq_r <| sq_r <| sq_r <| bq_r <| bq_r <| sq_r <| sq_r <| bq_r <| sq_r ?_
                          obtain rfl := sI hF
                          have hF := hG6
                          obtain rfl := sI hF
                          refine retQ_r ((((hle1.trans hle3).trans hle4).trans hle5).trans hle6) (.tmp rfl .nil) rfl ?_
                          rfl
                        · have kh38 := (nF h38)
                          have hF := cF h38 hF
                          refine .skip <| bq_n <| sq_n <| .region rfl <| .m rfl rfl <| .p .no rfl (.inc1 rfl rfl (by omega)) <| .z rfl rfl <| .nil <| loopQ_n (L_r04_sameVersion_6.mk (k6_1 + 1)) ⟨rfl, rfl, rfl, rfl, rfl, trivial⟩ (List.Sublist.refl _) (Le.refl _) ?_ ?_
                          · exact ⟨(atN_lt hy6), hF⟩
                          · simp only; omega
                      · have kh35 := dF h35
                        rw [dn (by omega), F_r04_sameVersion_l6] at hF
                        obtain rfl := sI hF
                        have hF := hG6
                        refine .exit <| sq_e <| lq_e <| bq_x rfl <| bq_n <| sq_n <| .region rfl <| .m rfl rfl <| .p .no rfl (.addL (c := 4) rfl rfl rfl (by decide)) <| .z rfl rfl <| .nil <| sq_n <| .unroll <| .seq <| .seq <| .region rfl <| .m rfl rfl <| .b rfl rfl rfl rfl <| .nil <| sq_n <| .condT rfl (by decide) <| .skip <| sq_n <| .seq <| .block <| .seq <| .seq <| .draw (tb := [r0 0 0, r0 0 0, r0 0 0, r0 5 0, r0 15 0, r0 31 0, r0 63 0, r0 0 0, r0 0 0, r0 0 0, r0 640 0, r0 1920 0, r0 3968 0, r0 8064 0, r1 16383 0]) rfl (by kernel_rfl) (by kernel_rfl) ?_
                        refine .m rfl rfl <| .m rfl rfl <| .p .no rfl (.fa rfl f_97_2) rfl rfl rfl <| .p .no rfl (.ixa (j := 0) rfl rfl ae_95 (by decide)) rfl rfl rfl <| .p .no rfl (.ixa (j := 4) rfl rfl ae_94 (by decide)) rfl rfl rfl <| .y rfl rfl rfl (.s rfl (.tl .hd) a_93 rfl) <| .p .no rfl (.lenR rfl rfl rfl e_93 (hlq0 4 (by decide))) rfl rfl rfl <| .m rfl rfl <| .m rfl rfl <| .p .no rfl (.fa rfl f_97_2) rfl rfl rfl <| .p .no rfl (.ixa (j := 0) rfl rfl ae_95 (by decide)) rfl rfl rfl <| .p .no rfl (.ixa (j := 4) rfl rfl ae_94 (by decide)) rfl rfl rfl <| .y rfl rfl rfl (.s rfl .hd a_93 rfl) <| .p .no rfl (.lenR rfl rfl rfl e_93 (hlq1 4 (by decide))) rfl rfl rfl <| .b rfl rfl rfl rfl <| .nil <| sq_n <| .cond rfl (fun h39 => ?_) (fun h39 => ?_)
                        · have kh39 := dF (nT h39)
                          have hF := cT h39 hF
                          refine .seq <| .region rfl <| .z rfl rfl <| .nil <| sq_n <| .ret <| sq_r <| bq_r <| sq_r <| sq_r <| bq_r <| bq_r <| sq_r <| sq_r <| bq_r <| sq_r ?_
                          obtain rfl := sI hF
                          refine retQ_r ((((hle1.trans hle3).trans hle4).trans hle5).trans hle6) (.tmp rfl .nil) rfl ?_
                          rfl
                        · have kh39 := dT (nF h39)
                          have hF := cF h39 hF
                          refine .skip <| sq_n <| .seq <| .region rfl <| .z rfl rfl <| .nil <| sq_n <| .block ?_
                          obtain ⟨o7, hF, hG7⟩ := bS hF
                          refine .loopx (α := L_r04_sameVersion_7) [(2, _), (3, _), (7, _), (8, _)] _ (fun fx x => (9, .i .i64 (x.k7_1 : Int)) :: fx) (fun mx _ => mx) (fun x g' => x.k7_1 ≤ (p0.ln 4).length ∧ F_r04_sameVersion_l7 p1 ((p0.ln 4).drop x.k7_1) x.k7_1 = some o7) (fun x => (p0.ln 4).length - x.k7_1) (L_r04_sameVersion_7.mk 0) ⟨rfl, rfl, rfl, rfl, rfl, trivial⟩ (List.Sublist.refl _) ⟨(by first | omega | (dsimp only; omega)), hF⟩ ?_
                          intro x7 g7 hle7 hJ7
                          obtain ⟨k7_1⟩ := x7
                          try dsimp only at hJ7
                          obtain ⟨hk7, hF⟩ := hJ7
                          refine .al0 [(9, .i .i64 (k7_1 : Int)), (2, _), (3, _), (7, _), (8, _)] ?_
                          replace hpq0 := hpq0.mono PutR.mono hle7
                          replace hlq0 := fun k hk => (hlq0 k hk).mono PieceR.mono hle7
                          replace hpq1 := hpq1.mono PutR.mono hle7
                          replace hlq1 := fun k hk => (hlq1 k hk).mono PieceR.mono hle7
                          refine .seq <| .seq <| .region rfl <| .m rfl rfl <| .m rfl rfl <| .m rfl rfl <| .p .no rfl (.fa rfl f_97_2) <| .p .no rfl (.ixa (j := 0) rfl rfl ae_95 (by decide)) <| .p .no rfl (.ixa (j := 4) rfl rfl ae_94 (by decide)) <| .ld .no rfl (.s rfl (.tl .hd) a_93 rfl) <| .p .no rfl (.lenR rfl rfl rfl e_93 (hlq0 4 (by decide))) <| .b rfl rfl rfl rfl <| .nil <| sq_n <| .cond rfl (fun h40 => ?_) (fun h40 => ?_)
                          · have kh40 := dT h40
                            obtain ⟨y7, hy7⟩ := getK (l := (p0.ln 4)) (k := k7_1) kh40
                            rw [dc hy7, F_r04_sameVersion_l7] at hF
                            refine .skip <| sq_n <| .seq <| .block <| .seq <| .draw (tb := [r0 0 0, r0 0 0, r0 0 0, r0 5 0, r0 15 0, r0 31 0, r0 0 0, r0 127 0, r0 255 0, r0 0 0, r0 0 0, r0 0 0, r0 2560 0, r0 7680 0, r0 15872 0, r0 0 0, r0 65024 0, r0 130560 0, r1 262143 0]) rfl (by kernel_rfl) (by kernel_rfl) ?_
                            refine .m rfl rfl <| .m rfl rfl <| .p .no rfl (.fa rfl f_97_2) rfl rfl rfl <| .p .no rfl (.ixa (j := 0) rfl rfl ae_95 (by decide)) rfl rfl rfl <| .p .no rfl (.ixa (j := 4) rfl rfl ae_94 (by decide)) rfl rfl rfl <| .y rfl rfl rfl (.s rfl (.tl .hd) a_93 rfl) <| .m rfl rfl <| .ixk (j := k7_1) .no rfl rfl (hlq0 4 (by decide)) rfl e_93 hy7 ?_
                            rintro b41 o41 _ hq41 rfl
                            refine .y rfl rfl rfl (.pa 0 (vs := [_, _, _]) rfl hq41 rfl a_157 s_157 rfl rfl) <| .m rfl rfl <| .m rfl rfl <| .p .no rfl (.fa rfl f_97_2) rfl rfl rfl <| .p .no rfl (.ixa (j := 0) rfl rfl ae_95 (by decide)) rfl rfl rfl <| .p .no rfl (.ixa (j := 4) rfl rfl ae_94 (by decide)) rfl rfl rfl <| .y rfl rfl rfl (.s rfl .hd a_93 rfl) <| .m rfl rfl ?_
                            obtain ⟨y42, hy42, hF⟩ := bS hF
                            have hj42 := atN_lt hy42
                            refine .ixk (j := k7_1) .no rfl rfl (hlq1 4 (by decide)) rfl e_93 hy42 ?_
                            rintro b42 o42 _ hq42 rfl
                            refine .y rfl rfl rfl (.pa 0 (vs := [_, _, _]) rfl hq42 rfl a_157 s_157 rfl rfl) <| .p .no rfl (.binE rfl rfl (binV_neq (by kernel_rfl) (eq_157 _ _ _ _ _ _))) rfl rfl rfl ?_
                            refine .nil <| sq_n <| .cond rfl (fun h43 => ?_) (fun h43 => ?_)
                            · have kh43 := (nT h43)
                              have hF := cT h43 hF
                              refine .seq <| .region rfl <| .z rfl rfl <| .nil <| sq_n <| .ret <| bq_r <| sq_r <| lq_r <| bq_r <| bq_r <| sq_r <| sq_r <| bq_r <| bq_r <| sq_r <| sq_r <| bq_r <| sq_r ?_
                              obtain rfl := sI hF
                              have hF := hG7
                              obtain rfl := sI hF
                              refine retQ_r (((((hle1.trans hle3).trans hle4).trans hle5).trans hle6).trans hle7) (.tmp rfl .nil) rfl ?_
                              rfl
                            · have kh43 := (nF h43)
                              have hF := cF h43 hF
                              refine .skip <| bq_n <| sq_n <| .region rfl <| .m rfl rfl <| .p .no rfl (.inc1 rfl rfl (by omega)) <| .z rfl rfl <| .nil <| loopQ_n (L_r04_sameVersion_7.mk (k7_1 + 1)) ⟨rfl, rfl, rfl, rfl, rfl, trivial⟩ (List.Sublist.refl _) (Le.refl _) ?_ ?_
                              · exact ⟨(atN_lt hy7), hF⟩
                              · simp only; omega
                          · have kh40 := dF h40
                            rw [dn (by omega), F_r04_sameVersion_l7] at hF
                            obtain rfl := sI hF
                            have hF := hG7
                            refine .exit <| sq_e <| lq_e <| bq_x rfl <| bq_n <| sq_n <| .region rfl <| .m rfl rfl <| .p .no rfl (.addL (c := 5) rfl rfl rfl (by decide)) <| .z rfl rfl <| .nil <| sq_n <| .unroll <| .seq <| .seq <| .region rfl <| .m rfl rfl <| .b rfl rfl rfl rfl <| .nil <| sq_n <| .condF rfl (by decide) <| .exit <| sq_e <| sq_e <| bq_x rfl <| bq_n <| sq_n <| .region rfl <| .m rfl rfl <| .p .no rfl (.addL (c := 1) rfl rfl rfl (by decide)) <| .z rfl rfl <| .nil <| sq_n <| .unroll <| .seq <| .seq <| .region rfl <| .m rfl rfl <| .b rfl rfl rfl rfl <| .nil <| sq_n <| .condT rfl (by decide) <| .skip <| sq_n <| .seq ?_
                            refine .block <| .seq <| .region rfl <| .z rfl rfl <| .nil <| sq_n <| .block <| .unroll <| .seq <| .seq <| .region rfl <| .m rfl rfl <| .b rfl rfl rfl rfl <| .nil <| sq_n <| .condT rfl (by decide) <| .skip <| sq_n <| .seq <| .block <| .seq <| .seq <| .draw (tb := [r0 0 0, r0 0 0, r0 0 0, r0 5 0, r0 15 0, r0 31 0, r0 63 0, r0 0 0, r0 0 0, r0 0 0, r0 640 0, r0 1920 0, r0 3968 0, r0 8064 0, r1 16383 0]) rfl (by kernel_rfl) (by kernel_rfl) ?_
                            refine .m rfl rfl <| .m rfl rfl <| .p .no rfl (.fa rfl f_97_2) rfl rfl rfl <| .p .no rfl (.ixa (j := 1) rfl rfl ae_95 (by decide)) rfl rfl rfl <| .p .no rfl (.ixa (j := 0) rfl rfl ae_94 (by decide)) rfl rfl rfl <| .y rfl rfl rfl (.s rfl (.tl .hd) a_93 rfl) <| .p .no rfl (.lenR rfl rfl rfl e_93 (hlq0 5 (by decide))) rfl rfl rfl <| .m rfl rfl <| .m rfl rfl <| .p .no rfl (.fa rfl f_97_2) rfl rfl rfl <| .p .no rfl (.ixa (j := 1) rfl rfl ae_95 (by decide)) rfl rfl rfl <| .p .no rfl (.ixa (j := 0) rfl rfl ae_94 (by decide)) rfl rfl rfl <| .y rfl rfl rfl (.s rfl .hd a_93 rfl) <| .p .no rfl (.lenR rfl rfl rfl e_93 (hlq1 5 (by decide))) rfl rfl rfl <| .b rfl rfl rfl rfl <| .nil <| sq_n <| .cond rfl (fun h44 => ?_) (fun h44 => ?_)
                            · have kh44 := dF (nT h44)
                              have hF := cT h44 hF
                              refine .seq <| .region rfl <| .z rfl rfl <| .nil <| sq_n <| .ret <| sq_r <| bq_r <| sq_r <| sq_r <| bq_r <| bq_r <| sq_r <| sq_r <| bq_r <| sq_r ?_
                              obtain rfl := sI hF
                              refine retQ_r (((((hle1.trans hle3).trans hle4).trans hle5).trans hle6).trans hle7) (.tmp rfl .nil) rfl ?_
                              rfl
                            · have kh44 := dT (nF h44)
                              have hF := cF h44 hF
                              refine .skip <| sq_n <| .seq <| .region rfl <| .z rfl rfl <| .nil <| sq_n <| .block ?_
                              obtain ⟨o8, hF, hG8⟩ := bS hF
                              refine .loopx (α := L_r04_sameVersion_8) [(2, _), (3, _), (7, _), (8, _)] _ (fun fx x => (9, .i .i64 (x.k8_1 : Int)) :: fx) (fun mx _ => mx) (fun x g' => x.k8_1 ≤ (p0.ln 5).length ∧ F_r04_sameVersion_l8 p1 ((p0.ln 5).drop x.k8_1) x.k8_1 = some o8) (fun x => (p0.ln 5).length - x.k8_1) (L_r04_sameVersion_8.mk 0) ⟨rfl, rfl, rfl, rfl, rfl, trivial⟩ (List.Sublist.refl _) ⟨(by first | omega | (dsimp only; omega)), hF⟩ ?_
                              intro x8 g8 hle8 hJ8
                              obtain ⟨k8_1⟩ := x8
                              try dsimp only at hJ8
                              obtain ⟨hk8, hF⟩ := hJ8
                              refine .al0 [(9, .i .i64 (k8_1 : Int)), (2, _), (3, _), (7, _), (8, _)] ?_
                              replace hpq0 := hpq0.mono PutR.mono hle8
                              replace hlq0 := fun k hk => (hlq0 k hk).mono PieceR.mono hle8
                              replace hpq1 := hpq1.mono PutR.mono hle8
                              replace hlq1 := fun k hk => (hlq1 k hk).mono PieceR.mono hle8
                              refine .seq <| .seq <| .region rfl <| .m rfl rfl <| .m rfl rfl <| .m rfl rfl <| .p .no rfl (.fa rfl f_97_2) <| .p .no rfl (.ixa (j := 1) rfl rfl ae_95 (by decide)) <| .p .no rfl (.ixa (j := 0) rfl rfl ae_94 (by decide)) <| .ld .no rfl (.s rfl (.tl .hd) a_93 rfl) <| .p .no rfl (.lenR rfl rfl rfl e_93 (hlq0 5 (by decide))) <| .b rfl rfl rfl rfl <| .nil <| sq_n <| .cond rfl (fun h45 => ?_) (fun h45 => ?_)
                              · have kh45 := dT h45
                                obtain ⟨y8, hy8⟩ := getK (l := (p0.ln 5)) (k := k8_1) kh45
                                rw [dc hy8, F_r04_sameVersion_l8] at hF
                                refine .skip <| sq_n <| .seq <| .block <| .seq <| .draw (tb := [r0 0 0, r0 0 0, r0 0 0, r0 5 0, r0 15 0, r0 31 0, r0 0 0, r0 127 0, r0 255 0, r0 0 0, r0 0 0, r0 0 0, r0 2560 0, r0 7680 0, r0 15872 0, r0 0 0, r0 65024 0, r0 130560 0, r1 262143 0]) rfl (by kernel_rfl) (by kernel_rfl) ?_
                                refine .m rfl rfl <| .m rfl rfl <| .p .no rfl (.fa rfl f_97_2) rfl rfl rfl <| .p .no rfl (.ixa (j := 1) rfl rfl ae_95 (by decide)) rfl rfl rfl <| .p .no rfl (.ixa (j := 0) rfl rfl ae_94 (by decide)) rfl rfl rfl <| .y rfl rfl rfl (.s rfl (.tl .hd) a_93 rfl) <| .m rfl rfl <| .ixk (j := k8_1) .no rfl rfl (hlq0 5 (by decide)) rfl e_93 hy8 ?_
                                rintro b46 o46 _ hq46 rfl
                                refine .y rfl rfl rfl (.pa 0 (vs := [_, _, _]) rfl hq46 rfl a_157 s_157 rfl rfl) <| .m rfl rfl <| .m rfl rfl <| .p .no rfl (.fa rfl f_97_2) rfl rfl rfl <| .p .no rfl (.ixa (j := 1) rfl rfl ae_95 (by decide)) rfl rfl rfl <| .p .no rfl (.ixa (j := 0) rfl rfl ae_94 (by decide)) rfl rfl rfl <| .y rfl rfl rfl (.s rfl .hd a_93 rfl) <| .m rfl rfl ?_
                                obtain ⟨y47, hy47, hF⟩ := bS hF
                                have hj47 := atN_lt hy47
                                refine .ixk (j := k8_1) .no rfl rfl (hlq1 5 (by decide)) rfl e_93 hy47 ?_
                                rintro b47 o47 _ hq47 rfl
                                refine .y rfl rfl rfl (.pa 0 (vs := [_, _, _]) rfl hq47 rfl a_157 s_157 rfl rfl) <| .p .no rfl (.binE rfl rfl (binV_neq (by kernel_rfl) (eq_157 _ _ _ _ _ _))) rfl rfl rfl ?_
                                refine .nil <| sq_n <| .cond rfl (fun h48 => ?_) (fun h48 => ?_)
                                · have kh48 := (nT h48)
                                  have hF := cT h48 hF
                                  refine .seq <| .region rfl <| .z rfl rfl <| .nil <| sq_n <| .ret <| bq_r <| sq_r <| lq_r <| bq_r <| bq_r <| sq_r <| sq_r <| bq_r <| bq_r <| sq_r <| sq_r <| bq_r <| sq_r ?_
                                  obtain rfl := sI hF
                                  have hF := hG8
                                  obtain rfl := sI hF
                                  refine retQ_r ((((((hle1.trans hle3).trans hle4).trans hle5).trans hle6).trans hle7).trans hle8) (.tmp rfl .nil) rfl ?_
                                  rfl
                                · have kh48 := (nF h48)
                                  have hF := cF h48 hF
                                  refine .skip <| bq_n <| sq_n <| .region rfl <| .m rfl rfl <| .p .no rfl (.inc1 rfl rfl (by omega)) <| .z rfl rfl <| .nil <| loopQ_n (L_r04_sameVersion_8.mk (k8_1 + 1)) ⟨rfl, rfl, rfl, rfl, rfl, trivial⟩ (List.Sublist.refl _) (Le.refl _) ?_ ?_
                                  · exact ⟨(atN_lt hy8), hF⟩
                                  · simp only; omega
                              · have kh45 := dF h45
                                rw [dn (by omega), F_r04_sameVersion_l8] at hF
                                obtain rfl := sI hF
                                have hF := hG8
                                refine .exit <| sq_e <| lq_e <| bq_x rfl <| bq_n <| sq_n <| .region rfl <| .m rfl rfl <| .p .no rfl (.addL (c := 1) rfl rfl rfl (by decide)) <| .z rfl rfl <| .nil <| sq_n <| .unroll <| .seq <| .seq <| .region rfl <| .m rfl rfl <| .b rfl rfl rfl rfl <| .nil <| sq_n <| .condT rfl (by decide) <| .skip <| sq_n <| .seq <| .block <| .seq <| .seq <| .draw (tb := [r0 0 0, r0 0 0, r0 0 0, r0 5 0, r0 15 0, r0 31 0, r0 63 0, r0 0 0, r0 0 0, r0 0 0, r0 640 0, r0 1920 0, r0 3968 0, r0 8064 0, r1 16383 0]) rfl (by kernel_rfl) (by kernel_rfl) ?_
                                refine .m rfl rfl <| .m rfl rfl <| .p .no rfl (.fa rfl f_97_2) rfl rfl rfl <| .p .no rfl (.ixa (j := 1) rfl rfl ae_95 (by decide)) rfl rfl rfl <| .p .no rfl (.ixa (j := 1) rfl rfl ae_94 (by decide)) rfl rfl rfl <| .y rfl rfl rfl (.s rfl (.tl .hd) a_93 rfl) <| .p .no rfl (.lenR rfl rfl rfl e_93 (hlq0 6 (by decide))) rfl rfl rfl <| .m rfl rfl <| .m rfl rfl <| .p .no rfl (.fa rfl f_97_2) rfl rfl rfl <| .p .no rfl (.ixa (j := 1) rfl rfl ae_95 (by decide)) rfl rfl rfl <| .p .no rfl (.ixa (j := 1) rfl rfl ae_94 (by decide)) rfl rfl rfl <| .y rfl rfl rfl (.s rfl .hd a_93 rfl) <| .p .no rfl (.lenR rfl rfl rfl e_93 (hlq1 6 (by decide))) rfl rfl rfl <| .b rfl rfl rfl rfl <| .nil <| sq_n <| .cond rfl (fun h49 => ?_) (fun h49 => ?_)
                                · have kh49 := dF (nT h49)
                                  have hF := cT h49 hF
                                  refine .seq <| .region rfl <| .z rfl rfl <| .nil <| sq_n <| .ret <| sq_r <| bq_r <| sq_r <| sq_r <| bq_r <| bq_r <| sq_r <| sq_r <| bq_r <| sq_r ?_
                                  obtain rfl := sI hF
                                  refine retQ_r ((((((hle1.trans hle3).trans hle4).trans hle5).trans hle6).trans hle7).trans hle8) (.tmp rfl .nil) rfl ?_
                                  rfl
                                · have kh49 := dT (nF h49)
                                  have hF := cF h49 hF
                                  refine .skip <| sq_n <| .seq <| .region rfl <| .z rfl rfl <| .nil <| sq_n <| .block ?_
                                  obtain ⟨o9, hF, hG9⟩ := bS hF
                                  refine .loopx (α := L_r04_sameVersion_9) [(2, _), (3, _), (7, _), (8, _)] _ (fun fx x => (9, .i .i64 (x.k9_1 : Int)) :: fx) (fun mx _ => mx) (fun x g' => x.k9_1 ≤ (p0.ln 6).length ∧ F_r04_sameVersion_l9 p1 ((p0.ln 6).drop x.k9_1) x.k9_1 = some o9) (fun x => (p0.ln 6).length - x.k9_1) (L_r04_sameVersion_9.mk 0) ⟨rfl, rfl, rfl, rfl, rfl, trivial⟩ (List.Sublist.refl _) ⟨(by first | omega | (dsimp only; omega)), hF⟩ ?_
                                  intro x9 g9 hle9 hJ9
                                  obtain ⟨k9_1⟩ := x9
                                  try dsimp only at hJ9
                                  obtain ⟨hk9, hF⟩ := hJ9
                                  refine .al0 [(9, .i .i64 (k9_1 : Int)), (2, _), (3, _), (7, _), (8, _)] ?_
                                  replace hpq0 := hpq0.mono PutR.mono hle9
                                  replace hlq0 := fun k hk => (hlq0 k hk).mono PieceR.mono hle9
                                  replace hpq1 := hpq1.mono PutR.mono hle9
                                  replace hlq1 := fun k hk => (hlq1 k hk).mono PieceR.mono hle9
                                  refine .seq <| .seq <| .region rfl <| .m rfl rfl <| .m rfl rfl <| .m rfl rfl <| .p .no rfl (.fa rfl f_97_2) <| .p .no rfl (.ixa (j := 1) rfl rfl ae_95 (by decide)) <| .p .no rfl (.ixa (j := 1) rfl rfl ae_94 (by decide)) <| .ld .no rfl (.s rfl (.tl .hd) a_93 rfl) <| .p .no rfl (.lenR rfl rfl rfl e_93 (hlq0 6 (by decide))) <| .b rfl rfl rfl rfl <| .nil <| sq_n <| .cond rfl (fun h50 => ?_) (fun h50 => ?_)
                                  · have kh50 := dT h50
                                    obtain ⟨y9, hy9⟩ := getK (l := (p0.ln 6)) (k := k9_1) kh50
                                    rw [dc hy9, F_r04_sameVersion_l9] at hF
                                    refine .skip <| sq_n <| .seq <| .block <| .seq <| .draw (tb := [r0 0 0, r0 0 0, r0 0 0, r0 5 0, r0 15 0, r0 31 0, r0 0 0, r0 127 0, r0 255 0, r0 0 0, r0 0 0, r0 0 0, r0 2560 0, r0 7680 0, r0 15872 0, r0 0 0, r0 65024 0, r0 130560 0, r1 262143 0]) rfl (by kernel_rfl) (by kernel_rfl) ?_
                                    refine .m rfl rfl <| .m rfl rfl <| .p .no rfl (.fa rfl f_97_2) rfl rfl rfl <| .p .no rfl (.ixa (j := 1) rfl rfl ae_95 (by decide)) rfl rfl rfl <| .p .no rfl (.ixa (j := 1) rfl rfl ae_94 (by decide)) rfl rfl rfl <| .y rfl rfl rfl (.s rfl (.tl .hd) a_93 rfl) <| .m rfl rfl <| .ixk (j := k9_1) .no rfl rfl (hlq0 6 (by decide)) rfl e_93 hy9 ?_
                                    rintro b51 o51 _ hq51 rfl
                                    refine .y rfl rfl rfl (.pa 0 (vs := [_, _, _]) rfl hq51 rfl a_157 s_157 rfl rfl) <| .m rfl rfl <| .m rfl rfl <| .p .no rfl (.fa rfl f_97_2) rfl rfl rfl <| .p .no rfl (.ixa (j := 1) rfl rfl ae_95 (by decide)) rfl rfl rfl <| .p .no rfl (.ixa (j := 1) rfl rfl ae_94 (by decide)) rfl rfl rfl <| .y rfl rfl rfl (.s rfl .hd a_93 rfl) <| .m rfl rfl ?_
                                    obtain ⟨y52, hy52, hF⟩ := bS hF
                                    have hj52 := atN_lt hy52
                                    refine .ixk (j := k9_1) .no rfl rfl (hlq1 6 (by decide)) rfl e_93 hy52 ?_
                                    rintro b52 o52 _ hq52 rfl
                                    refine .y rfl rfl rfl (.pa 0 (vs := [_, _, _]) rfl hq52 rfl a_157 s_157 rfl rfl) <| .p .no rfl (.binE rfl rfl (binV_neq (by kernel_rfl) (eq_157 _ _ _ _ _ _))) rfl rfl rfl ?_
                                    refine .nil <| sq_n <| .cond rfl (fun h53 => ?_) (fun h53 => ?_)
                                    · have kh53 := (nT h53)
                                      have hF := cT h53 hF
                                      refine .seq <| .region rfl <| .z rfl rfl <| .nil <| sq_n <| .ret <| bq_r <| sq_r <| lq_r <| bq_r <| bq_r <| sq_r <| sq_r <| bq_r <| bq_r <| sq_r <| sq_r <| bq_r <| sq_r ?_
                                      obtain rfl := sI hF
                                      have hF := hG9
                                      obtain rfl := sI hF
                                      refine retQ_r (((((((hle1.trans hle3).trans hle4).trans hle5).trans hle6).trans hle7).trans hle8).trans hle9) (.tmp rfl .nil) rfl ?_
                                      rfl
                                    · have kh53 := (nF h53)
                                      have hF := cF h53 hF
                                      refine .skip <| bq_n <| sq_n <| .region rfl <| .m rfl rfl <| .p .no rfl (.inc1 rfl rfl (by omega)) <| .z rfl rfl <| .nil <| loopQ_n (L_r04_sameVersion_9.mk (k9_1 + 1)) ⟨rfl, rfl, rfl, rfl, rfl, trivial⟩ (List.Sublist.refl _) (Le.refl _) ?_ ?_
                                      · exact ⟨(atN_lt hy9), hF⟩
                                      · simp only; omega
                                  · have kh50 := dF h50
                                    rw [dn (by omega), F_r04_sameVersion_l9] at hF
                                    obtain rfl := sI hF
                                    have hF := hG9
                                    refine .exit <| sq_e <| lq_e <| bq_x rfl <| bq_n <| sq_n <| .region rfl <| .m rfl rfl <| .p .no rfl (.addL (c := 2) rfl rfl rfl (by decide)) <| .z rfl rfl <| .nil <| sq_n <| .unroll <| .seq <| .seq <| .region rfl <| .m rfl rfl <| .b rfl rfl rfl rfl <| .nil <| sq_n <| .condT rfl (by decide) <| .skip <| sq_n <| .seq <| .block <| .seq <| .seq <| .draw (tb := [r0 0 0, r0 0 0, r0 0 0, r0 5 0, r0 15 0, r0 31 0, r0 63 0, r0 0 0, r0 0 0, r0 0 0, r0 640 0, r0 1920 0, r0 3968 0, r0 8064 0, r1 16383 0]) rfl (by kernel_rfl) (by kernel_rfl) ?_
                                    refine .m rfl rfl <| .m rfl rfl <| .p .no rfl (.fa rfl f_97_2) rfl rfl rfl <| .p .no rfl (.ixa (j := 1) rfl rfl ae_95 (by decide)) rfl rfl rfl <| .p .no rfl (.ixa (j := 2) rfl rfl ae_94 (by decide)) rfl rfl rfl <| .y rfl rfl rfl (.s rfl (.tl .hd) a_93 rfl) <| .p .no rfl (.lenR rfl rfl rfl e_93 (hlq0 7 (by decide))) rfl rfl rfl <| .m rfl rfl <| .m rfl rfl <| .p .no rfl (.fa rfl f_97_2) rfl rfl rfl <| .p .no rfl (.ixa (j := 1) rfl rfl ae_95 (by decide)) rfl rfl rfl <| .p .no rfl (.ixa (j := 2) rfl rfl ae_94 (by decide)) rfl rfl rfl <| .y rfl rfl rfl (.s rfl .hd a_93 rfl) <| .p .no rfl (.lenR rfl rfl rfl e_93 (hlq1 7 (by decide))) rfl rfl rfl <| .b rfl rfl rfl rfl <| .nil <| sq_n <| .cond rfl (fun h54 => ?_) (fun h54 => ?_)
                                    · have kh54 := dF (nT h54)
                                      have hF := cT h54 hF
                                      refine .seq <| .region rfl <| .z rfl rfl <| .nil <| sq_n <| .ret <| sq_r <| bq_r <| sq_r <| sq_r <| bq_r <| bq_r <| sq_r <| sq_r <| bq_r <| sq_r ?_
                                      obtain rfl := sI hF
                                      refine retQ_r (((((((hle1.trans hle3).trans hle4).trans hle5).trans hle6).trans hle7).trans hle8).trans hle9) (.tmp rfl .nil) rfl ?_
                                      rfl
                                    · have kh54 := dT (nF h54)
                                      have hF := cF h54 hF
                                      refine .skip <| sq_n <| .seq <| .region rfl <| .z rfl rfl <| .nil <| sq_n <| .block ?_
                                      obtain ⟨o10, hF, hG10⟩ := bS hF
                                      refine .loopx (α := L_r04_sameVersion_10) [(2, _), (3, _), (7, _), (8, _)] _ (fun fx x => (9, .i .i64 (x.k10_1 : Int)) :: fx) (fun mx _ => mx) (fun x g' => x.k10_1 ≤ (p0.ln 7).length ∧ F_r04_sameVersion_l10 p1 ((p0.ln 7).drop x.k10_1) x.k10_1 = some o10) (fun x => (p0.ln 7).length - x.k10_1) (L_r04_sameVersion_10.mk 0) ⟨rfl, rfl, rfl, rfl, rfl, trivial⟩ (List.Sublist.refl _) ⟨(by first | omega | (dsimp only; omega)), hF⟩ ?_
                                      intro x10 g10 hle10 hJ10
                                      obtain ⟨k10_1⟩ := x10
                                      try dsimp only at hJ10
                                      obtain ⟨hk10, hF⟩ := hJ10
                                      refine .al0 [(9, .i .i64 (k10_1 : Int)), (2, _), (3, _), (7, _), (8, _)] ?_
                                      replace hpq0 := hpq0.mono PutR.mono hle10
                                      replace hlq0 := fun k hk => (hlq0 k hk).mono PieceR.mono hle10
                                      replace hpq1 := hpq1.mono PutR.mono hle10
                                      replace hlq1 := fun k hk => (hlq1 k hk).mono PieceR.mono hle10
                                      refine .seq <| .seq <| .region rfl <| .m rfl rfl <| .m rfl rfl <| .m rfl rfl <| .p .no rfl (.fa rfl f_97_2) <| .p .no rfl (.ixa (j := 1) rfl rfl ae_95 (by decide)) <| .p .no rfl (.ixa (j := 2) rfl rfl ae_94 (by decide)) <| .ld .no rfl (.s rfl (.tl .hd) a_93 rfl) <| .p .no rfl (.lenR rfl rfl rfl e_93 (hlq0 7 (by decide))) <| .b rfl rfl rfl rfl <| .nil <| sq_n <| .cond rfl (fun h55 => ?_) (fun h55 => ?_)
                                      · have kh55 := dT h55
                                        obtain ⟨y10, hy10⟩ := getK (l := (p0.ln 7)) (k := k10_1) kh55
                                        rw [dc hy10, F_r04_sameVersion_l10] at hF
                                        refine .skip <| sq_n <| .seq <| .block <| .seq <| .draw (tb := [r0 0 0, r0 0 0, r0 0 0, r0 5 0, r0 15 0, r0 31 0, r0 0 0, r0 127 0, r0 255 0, r0 0 0, r0 0 0, r0 0 0, r0 2560 0, r0 7680 0, r0 15872 0, r0 0 0, r0 65024 0, r0 130560 0, r1 262143 0]) rfl (by kernel_rfl) (by kernel_rfl) ?_
                                        refine .m rfl rfl <| .m rfl rfl <| .p .no rfl (.fa rfl f_97_2) rfl rfl rfl <| .p .no rfl (.ixa (j := 1) rfl rfl ae_95 (by decide)) rfl rfl rfl <| .p .no rfl (.ixa (j := 2) rfl rfl ae_94 (by decide)) rfl rfl rfl <| .y rfl rfl rfl (.s rfl (.tl .hd) a_93 rfl) <| .m rfl rfl <| .ixk (j := k10_1) .no rfl rfl (hlq0 7 (by decide)) rfl e_93 hy10 ?_
                                        rintro b56 o56 _ hq56 rfl
                                        refine .y rfl rfl rfl (.pa 0 (vs := [_, _, _]) rfl hq56 rfl a_157 s_157 rfl rfl) <| .m rfl rfl <| .m rfl rfl <| .p .no rfl (.fa rfl f_97_2) rfl rfl rfl <| .p .no rfl (.ixa (j := 1) rfl rfl ae_95 (by decide)) rfl rfl rfl <| .p .no rfl (.ixa (j := 2) rfl rfl ae_94 (by decide)) rfl rfl rfl <| .y rfl rfl rfl (.s rfl .hd a_93 rfl) <| .m rfl rfl ?_
                                        obtain ⟨y57, hy57, hF⟩ := bS hF
                                        have hj57 := atN_lt hy57
                                        refine .ixk (j := k10_1) .no rfl rfl (hlq1 7 (by decide)) rfl e_93 hy57 ?_
                                        rintro b57 o57 _ hq57 rfl
                                        refine .y rfl rfl rfl (.pa 0 (vs := [_, _, _]) rfl hq57 rfl a_157 s_157 rfl rfl) <| .p .no rfl (.binE rfl rfl (binV_neq (by kernel_rfl) (eq_157 _ _ _ _ _ _))) rfl rfl rfl ?_
                                        refine .nil <| sq_n <| .cond rfl (fun h58 => ?_) (fun h58 => ?_)
                                        · have kh58 := (nT h58)
                                          have hF := cT h58 hF
                                          refine .seq <| .region rfl <| .z rfl rfl <| .nil <| sq_n <| .ret <| bq_r <| sq_r <| lq_r <| bq_r <| bq_r <| sq_r <| sq_r <| bq_r <| bq_r <| sq_r <| sq_r <| bq_r <| sq_r ?_
                                          obtain rfl := sI hF
                                          have hF := hG10
                                          obtain rfl := sI hF
                                          refine retQ_r ((((((((hle1.trans hle3).trans hle4).trans hle5).trans hle6).trans hle7).trans hle8).trans hle9).trans hle10) (.tmp rfl .nil) rfl ?_
                                          rfl
                                        · have kh58 := (nF h58)
                                          have hF := cF h58 hF
                                          refine .skip <| bq_n <| sq_n <| .region rfl <| .m rfl rfl <| .p .no rfl (.inc1 rfl rfl (by omega)) <| .z rfl rfl <| .nil <| loopQ_n (L_r04_sameVersion_10.mk (k10_1 + 1)) ⟨rfl, rfl, rfl, rfl, rfl, trivial⟩ (List.Sublist.refl _) (Le.refl _) ?_ ?_
                                          · exact ⟨(atN_lt hy10), hF⟩
                                          · simp only; omega
                                      · have kh55 := dF h55
                                        rw [dn (by omega), F_r04_sameVersion_l10] at hF
                                        obtain rfl := sI hF
                                        have hF := hG10
                                        refine .exit <| sq_e <| lq_e <| bq_x rfl <| bq_n <| sq_n <| .region rfl <| .m rfl rfl <| .p .no rfl (.addL (c := 3) rfl rfl rfl (by decide)) <| .z rfl rfl <| .nil <| sq_n <| .unroll <| .seq <| .seq <| .region rfl <| .m rfl rfl <| .b rfl rfl rfl rfl <| .nil <| sq_n <| .condT rfl (by decide) <| .skip <| sq_n <| .seq <| .block <| .seq <| .seq <| .draw (tb := [r0 0 0, r0 0 0, r0 0 0, r0 5 0, r0 15 0, r0 31 0, r0 63 0, r0 0 0, r0 0 0, r0 0 0, r0 640 0, r0 1920 0, r0 3968 0, r0 8064 0, r1 16383 0]) rfl (by kernel_rfl) (by kernel_rfl) ?_
                                        refine .m rfl rfl <| .m rfl rfl <| .p .no rfl (.fa rfl f_97_2) rfl rfl rfl <| .p .no rfl (.ixa (j := 1) rfl rfl ae_95 (by decide)) rfl rfl rfl <| .p .no rfl (.ixa (j := 3) rfl rfl ae_94 (by decide)) rfl rfl rfl <| .y rfl rfl rfl (.s rfl (.tl .hd) a_93 rfl) <| .p .no rfl (.lenR rfl rfl rfl e_93 (hlq0 8 (by decide))) rfl rfl rfl <| .m rfl rfl <| .m rfl rfl <| .p .no rfl (.fa rfl f_97_2) rfl rfl rfl <| .p .no rfl (.ixa (j := 1) rfl rfl ae_95 (by decide)) rfl rfl rfl <| .p .no rfl (.ixa (j := 3) rfl rfl ae_94 (by decide)) rfl rfl rfl <| .y rfl rfl rfl (.s rfl .hd a_93 rfl) <| .p .no rfl (.lenR rfl rfl rfl e_93 (hlq1 8 (by decide))) rfl rfl rfl <| .b rfl rfl rfl rfl <| .nil <| sq_n <| .cond rfl (fun h59 => ?_) (fun h59 => ?_)
                                        · have kh59 := dF (nT h59)
                                          have hF := cT h59 hF
                                          refine .seq <| .region rfl <| .z rfl rfl <| .nil <| sq_n <| .ret <| sq_r <| bq_r <| sq_r <| sq_r <| bq_r <| bq_r <| sq_r <| sq_r <| bq_r <| sq_r ?_
                                          obtain rfl := sI hF
                                          refine retQ_r ((((((((hle1.trans hle3).trans hle4).trans hle5).trans hle6).trans hle7).trans hle8).trans hle9).trans hle10) (.tmp rfl .nil) rfl ?_
                                          rfl
                                        · have kh59 := dT (nF h59)
                                          have hF := cF h59 hF
                                          refine .skip <| sq_n <| .seq <| .region rfl <| .z rfl rfl <| .nil <| sq_n <| .block ?_
                                          obtain ⟨o11, hF, hG11⟩ := bS hF
                                          refine .loopx (α := L_r04_sameVersion_11) [(2, _), (3, _), (7, _), (8, _)] _ (fun fx x => (9, .i .i64 (x.k11_1 : Int)) :: fx) (fun mx _ => mx) (fun x g' => x.k11_1 ≤ (p0.ln 8).length ∧ F_r04_sameVersion_l11 p1 ((p0.ln 8).drop x.k11_1) x.k11_1 = some o11) (fun x => (p0.ln 8).length - x.k11_1) (L_r04_sameVersion_11.mk 0) ⟨rfl, rfl, rfl, rfl, rfl, trivial⟩ (List.Sublist.refl _) ⟨(by first | omega | (dsimp only; omega)), hF⟩ ?_
                                          intro x11 g11 hle11 hJ11
                                          obtain ⟨k11_1⟩ := x11
                                          try dsimp only at hJ11
                                          obtain ⟨hk11, hF⟩ := hJ11
                                          refine .al0 [(9, .i .i64 (k11_1 : Int)), (2, _), (3, _), (7, _), (8, _)] ?_
                                          replace hpq0 := hpq0.mono PutR.mono hle11
                                          replace hlq0 := fun k hk => (hlq0 k hk).mono PieceR.mono hle11
                                          replace hpq1 := hpq1.mono PutR.mono hle11
                                          replace hlq1 := fun k hk => (hlq1 k hk).mono PieceR.mono hle11
                                          refine .seq <| .seq <| .region rfl <| .m rfl rfl <| .m rfl rfl <| .m rfl rfl <| .p .no rfl (.fa rfl f_97_2) <| .p .no rfl (.ixa (j := 1) rfl rfl ae_95 (by decide)) <| .p .no rfl (.ixa (j := 3) rfl rfl ae_94 (by decide)) <| .ld .no rfl (.s rfl (.tl .hd) a_93 rfl) <| .p .no rfl (.lenR rfl rfl rfl e_93 (hlq0 8 (by decide))) <| .b rfl rfl rfl rfl <| .nil <| sq_n <| .cond rfl (fun h60 => ?_) (fun h60 => ?_)
                                          · have kh60 := dT h60
                                            obtain ⟨y11, hy11⟩ := getK (l := (p0.ln 8)) (k := k11_1) kh60
                                            rw [dc hy11, F_r04_sameVersion_l11] at hF
                                            refine .skip <| sq_n <| .seq <| .block <| .seq <| .draw (tb := [r0 0 0, r0 0 0, r0 0 0, r0 5 0, r0 15 0, r0 31 0, r0 0 0, r0 127 0, r0 255 0, r0 0 0, r0 0 0, r0 0 0, r0 2560 0, r0 7680 0, r0 15872 0, r0 0 0, r0 65024 0, r0 130560 0, r1 262143 0]) rfl (by kernel_rfl) (by kernel_rfl) ?_
                                            refine .m rfl rfl <| .m rfl rfl <| .p .no rfl (.fa rfl f_97_2) rfl rfl rfl <| .p .no rfl (.ixa (j := 1) rfl rfl ae_95 (by decide)) rfl rfl rfl <| .p .no rfl (.ixa (j := 3) rfl rfl ae_94 (by decide)) rfl rfl rfl <| .y rfl rfl rfl (.s rfl (.tl .hd) a_93 rfl) <| .m rfl rfl <| .ixk (j := k11_1) .no rfl rfl (hlq0 8 (by decide)) rfl e_93 hy11 ?_
                                            rintro b61 o61 _ hq61 rfl
                                            refine .y rfl rfl rfl (.pa 0 (vs := [_, _, _]) rfl hq61 rfl a_157 s_157 rfl rfl) <| .m rfl rfl <| .m rfl rfl <| .p .no rfl (.fa rfl f_97_2) rfl rfl rfl <| .p .no rfl (.ixa (j := 1) rfl rfl ae_95 (by decide)) rfl rfl rfl <| .p .no rfl (.ixa (j := 3) rfl rfl ae_94 (by decide)) rfl rfl rfl <| .y rfl rfl rfl (.s rfl .hd a_93 rfl) <| .m rfl rfl ?_
                                            obtain ⟨y62, hy62, hF⟩ := bS hF
                                            have hj62 := atN_lt hy62
                                            refine .ixk (j := k11_1) .no rfl rfl (hlq1 8 (by decide)) rfl e_93 hy62 ?_
                                            rintro b62 o62 _ hq62 rfl
                                            refine .y rfl rfl rfl (.pa 0 (vs := [_, _, _]) rfl hq62 rfl a_157 s_157 rfl rfl) <| .p .no rfl (.binE rfl rfl (binV_neq (by kernel_rfl) (eq_157 _ _ _ _ _ _))) rfl rfl rfl ?_
                                            refine .nil <| sq_n <| .cond rfl (fun h63 => ?_) (fun h63 => ?_)
                                            · have kh63 := (nT h63)
                                              have hF := cT h63 hF
                                              refine .seq <| .region rfl <| .z rfl rfl <| .nil <| sq_n <| .ret <| bq_r <| sq_r <| lq_r <| bq_r <| bq_r <| sq_r <| sq_r <| bq_r <| bq_r <| sq_r <| sq_r <| bq_r <| sq_r ?_
                                              obtain rfl := sI hF
                                              have hF := hG11
                                              obtain rfl := sI hF
                                              refine retQ_r (((((((((hle1.trans hle3).trans hle4).trans hle5).trans hle6).trans hle7).trans hle8).trans hle9).trans hle10).trans hle11) (.tmp rfl .nil) rfl ?_
                                              rfl
                                            · have kh63 := (nF h63)
                                              have hF := cF h63 hF
                                              refine .skip <| bq_n <| sq_n <| .region rfl <| .m rfl rfl <| .p .no rfl (.inc1 rfl rfl (by omega)) <| .z rfl rfl <| .nil <| loopQ_n (L_r04_sameVersion_11.mk (k11_1 + 1)) ⟨rfl, rfl, rfl, rfl, rfl, trivial⟩ (List.Sublist.refl _) (Le.refl _) ?_ ?_
                                              · exact ⟨(atN_lt hy11), hF⟩
                                              · simp only; omega
                                          · have kh60 := dF h60
                                            rw [dn (by omega), F_r04_sameVersion_l11] at hF
                                            obtain rfl := sI hF
                                            have hF := hG11
                                            refine .exit <| sq_e <| lq_e <| bq_x rfl <| bq_n <| sq_n <| .region rfl <| .m rfl rfl <| .p .no rfl (.addL (c := 4) rfl rfl rfl (by decide)) <| .z rfl rfl <| .nil <| sq_n <| .unroll <| .seq <| .seq <| .region rfl <| .m rfl rfl <| .b rfl rfl rfl rfl <| .nil <| sq_n <| .condT rfl (by decide) <| .skip <| sq_n <| .seq <| .block <| .seq <| .seq <| .draw (tb := [r0 0 0, r0 0 0, r0 0 0, r0 5 0, r0 15 0, r0 31 0, r0 63 0, r0 0 0, r0 0 0, r0 0 0, r0 640 0, r0 1920 0, r0 3968 0, r0 8064 0, r1 16383 0]) rfl (by kernel_rfl) (by kernel_rfl) ?_
                                            refine .m rfl rfl <| .m rfl rfl <| .p .no rfl (.fa rfl f_97_2) rfl rfl rfl <| .p .no rfl (.ixa (j := 1) rfl rfl ae_95 (by decide)) rfl rfl rfl <| .p .no rfl (.ixa (j := 4) rfl rfl ae_94 (by decide)) rfl rfl rfl <| .y rfl rfl rfl (.s rfl (.tl .hd) a_93 rfl) <| .p .no rfl (.lenR rfl rfl rfl e_93 (hlq0 9 (by decide))) rfl rfl rfl <| .m rfl rfl <| .m rfl rfl <| .p .no rfl (.fa rfl f_97_2) rfl rfl rfl <| .p .no rfl (.ixa (j := 1) rfl rfl ae_95 (by decide)) rfl rfl rfl <| .p .no rfl (.ixa (j := 4) rfl rfl ae_94 (by decide)) rfl rfl rfl <| .y rfl rfl rfl (.s rfl .hd a_93 rfl) <| .p .no rfl (.lenR rfl rfl rfl e_93 (hlq1 9 (by decide))) rfl rfl rfl <| .b rfl rfl rfl rfl <| .nil <| sq_n <| .cond rfl (fun h64 => ?_) (fun h64 => ?_)
                                            · have kh64 := dF (nT h64)
                                              have hF := cT h64 hF
                                              refine .seq <| .region rfl <| .z rfl rfl <| .nil <| sq_n <| .ret <| sq_r <| bq_r <| sq_r <| sq_r <| bq_r <| bq_r <| sq_r <| sq_r <| bq_r <| sq_r ?_
                                              obtain rfl := sI hF
                                              refine retQ_r (((((((((hle1.trans hle3).trans hle4).trans hle5).trans hle6).trans hle7).trans hle8).trans hle9).trans hle10).trans hle11) (.tmp rfl .nil) rfl ?_
                                              rfl
                                            · have kh64 := dT (nF h64)
                                              have hF := cF h64 hF
                                              refine .skip <| sq_n <| .seq <| .region rfl <| .z rfl rfl <| .nil <| sq_n <| .block ?_
                                              obtain ⟨o12, hF, hG12⟩ := bS hF
                                              refine .loopx (α := L_r04_sameVersion_12) [(2, _), (3, _), (7, _), (8, _)] _ (fun fx x => (9, .i .i64 (x.k12_1 : Int)) :: fx) (fun mx _ => mx) (fun x g' => x.k12_1 ≤ (p0.ln 9).length ∧ F_r04_sameVersion_l12 p1 ((p0.ln 9).drop x.k12_1) x.k12_1 = some o12) (fun x => (p0.ln 9).length - x.k12_1) (L_r04_sameVersion_12.mk 0) ⟨rfl, rfl, rfl, rfl, rfl, trivial⟩ (List.Sublist.refl _) ⟨(by first | omega | (dsimp only; omega)), hF⟩ ?_
                                              intro x12 g12 hle12 hJ12
                                              obtain ⟨k12_1⟩ := x12
                                              try dsimp only at hJ12
                                              obtain ⟨hk12, hF⟩ := hJ12
                                              refine .al0 [(9, .i .i64 (k12_1 : Int)), (2, _), (3, _), (7, _), (8, _)] ?_
                                              replace hpq0 := hpq0.mono PutR.mono hle12
                                              replace hlq0 := fun k hk => (hlq0 k hk).mono PieceR.mono hle12
                                              replace hpq1 := hpq1.mono PutR.mono hle12
                                              replace hlq1 := fun k hk => (hlq1 k hk).mono PieceR.mono hle12
                                              refine .seq <| .seq <| .region rfl <| .m rfl rfl <| .m rfl rfl <| .m rfl rfl <| .p .no rfl (.fa rfl f_97_2) <| .p .no rfl (.ixa (j := 1) rfl rfl ae_95 (by decide)) <| .p .no rfl (.ixa (j := 4) rfl rfl ae_94 (by decide)) <| .ld .no rfl (.s rfl (.tl .hd) a_93 rfl) <| .p .no rfl (.lenR rfl rfl rfl e_93 (hlq0 9 (by decide))) <| .b rfl rfl rfl rfl <| .nil <| sq_n <| .cond rfl (fun h65 => ?_) (fun h65 => ?_)
                                              · have kh65 := dT h65
                                                obtain ⟨y12, hy12⟩ := getK (l := (p0.ln 9)) (k := k12_1) kh65
                                                rw [dc hy12, F_r04_sameVersion_l12] at hF
                                                refine .skip <| sq_n <| .seq <| .block <| .seq <| .draw (tb := [r0 0 0, r0 0 0, r0 0 0, r0 5 0, r0 15 0, r0 31 0, r0 0 0, r0 127 0, r0 255 0, r0 0 0, r0 0 0, r0 0 0, r0 2560 0, r0 7680 0, r0 15872 0, r0 0 0, r0 65024 0, r0 130560 0, r1 262143 0]) rfl (by kernel_rfl) (by kernel_rfl) ?_
                                                refine .m rfl rfl <| .m rfl rfl <| .p .no rfl (.fa rfl f_97_2) rfl rfl rfl <| .p .no rfl (.ixa (j := 1) rfl rfl ae_95 (by decide)) rfl rfl rfl <| .p .no rfl (.ixa (j := 4) rfl rfl ae_94 (by decide)) rfl rfl rfl <| .y rfl rfl rfl (.s rfl (.tl .hd) a_93 rfl) <| .m rfl rfl <| .ixk (j := k12_1) .no rfl rfl (hlq0 9 (by decide)) rfl e_93 hy12 ?_
                                                rintro b66 o66 _ hq66 rfl
                                                refine .y rfl rfl rfl (.pa 0 (vs := [_, _, _]) rfl hq66 rfl a_157 s_157 rfl rfl) <| .m rfl rfl <| .m rfl rfl <| .p .no rfl (.fa rfl f_97_2) rfl rfl rfl <| .p .no rfl (.ixa (j := 1) rfl rfl ae_95 (by decide)) rfl rfl rfl <| .p .no rfl (.ixa (j := 4) rfl rfl ae_94 (by decide)) rfl rfl rfl <| .y rfl rfl rfl (.s rfl .hd a_93 rfl) <| .m rfl rfl ?_
                                                obtain ⟨y67, hy67, hF⟩ := bS hF
                                                have hj67 := atN_lt hy67
                                                refine .ixk (j := k12_1) .no rfl rfl (hlq1 9 (by decide)) rfl e_93 hy67 ?_
                                                rintro b67 o67 _ hq67 rfl
                                                refine .y rfl rfl rfl (.pa 0 (vs := [_, _, _]) rfl hq67 rfl a_157 s_157 rfl rfl) <| .p .no rfl (.binE rfl rfl (binV_neq (by kernel_rfl) (eq_157 _ _ _ _ _ _))) rfl rfl rfl ?_
                                                refine .nil <| sq_n <| .cond rfl (fun h68 => ?_) (fun h68 => ?_)
                                                · have kh68 := (nT h68)
                                                  have hF := cT h68 hF
                                                  refine .seq <| .region rfl <| .z rfl rfl <| .nil <| sq_n <| .ret <| bq_r <| sq_r <| lq_r <| bq_r <| bq_r <| sq_r <| sq_r <| bq_r <| bq_r <| sq_r <| sq_r <| bq_r <| sq_r ?_
                                                  obtain rfl := sI hF
                                                  have hF := hG12
                                                  obtain rfl := sI hF
                                                  refine retQ_r ((((((((((hle1.trans hle3).trans hle4).trans hle5).trans hle6).trans hle7).trans hle8).trans hle9).trans hle10).trans hle11).trans hle12) (.tmp rfl .nil) rfl ?_
                                                  rfl
                                                · have kh68 := (nF h68)
                                                  have hF := cF h68 hF
                                                  refine .skip <| bq_n <| sq_n <| .region rfl <| .m rfl rfl <| .p .no rfl (.inc1 rfl rfl (by omega)) <| .z rfl rfl <| .nil <| loopQ_n (L_r04_sameVersion_12.mk (k12_1 + 1)) ⟨rfl, rfl, rfl, rfl, rfl, trivial⟩ (List.Sublist.refl _) (Le.refl _) ?_ ?_
                                                  · exact ⟨(atN_lt hy12), hF⟩
                                                  · simp only; omega
                                              · have kh65 := dF h65
                                                rw [dn (by omega), F_r04_sameVersion_l12] at hF
                                                obtain rfl := sI hF
                                                have hF := hG12
                                                refine .exit <| sq_e <| lq_e <| bq_x rfl <| bq_n <| sq_n <| .region rfl <| .m rfl rfl <| .p .no rfl (.addL (c := 5) rfl rfl rfl (by decide)) <| .z rfl rfl <| .nil <| sq_n <| .unroll <| .seq <| .seq <| .region rfl <| .m rfl rfl <| .b rfl rfl rfl rfl <| .nil <| sq_n <| .condF rfl (by decide) <| .exit <| sq_e <| sq_e <| bq_x rfl <| bq_n <| sq_n <| .region rfl <| .m rfl rfl <| .p .no rfl (.addL (c := 2) rfl rfl rfl (by decide)) <| .z rfl rfl <| .nil <| sq_n <| .unroll <| .seq <| .seq <| .region rfl <| .m rfl rfl <| .b rfl rfl rfl rfl <| .nil <| sq_n <| .condF rfl (by decide) <| .exit <| sq_e <| sq_e <| bq_x rfl <| sq_n <| .seq ?_
                                                refine .region rfl <| .z rfl rfl <| .nil <| sq_n <| .ret ?_
                                                obtain rfl := sI hF
                                                refine retQ_r ((((((((((hle1.trans hle3).trans hle4).trans hle5).trans hle6).trans hle7).trans hle8).trans hle9).trans hle10).trans hle11).trans hle12) (.tmp rfl .nil) rfl ?_
                                                rfl
structure L_r04_SameCode_1 where
  k1_1 : Nat
def F_r04_SameCode_l1 (p1 : Code) : List Version → Nat → Option ((Bool) ⊕ (Unit))
  | [], k1_1 => some ((Sum.inr ()))
  | y1 :: ys1, k1_1 => ((p1.vs[k1_1]?).bind fun y7 => ((F_r04_sameVersion y1 y7).bind fun q8 => (cond (!q8) (some ((Sum.inl false))) (F_r04_SameCode_l1 p1 ys1 (k1_1 + 1)))))
def F_r04_SameCode (p0 : Code) (p1 : Code) : Option (Bool) := (cond (!(decide (p0.name = p1.name))) (some false) ((cond (!(decide ((p0.vs.length : Int) = (p1.vs.length : Int)))) (some false) (((F_r04_SameCode_l1 p1 p0.vs 0).bind fun o => match o with | (Sum.inl q) => (some q) | (Sum.inr _) => (some true))))))
set_option maxHeartbeats 1000000 in
theorem F_r04_SameCode_ok (p0 : Code) (p1 : Code) (cs0 cs1 : List V) (g : G) (h0 : CodeR g cs0 p0) (h1 : CodeR g cs1 p1) (r : Bool) (hF : F_r04_SameCode p0 p1 = some r) : Fv Tryz.prog natS (.f 59 [] []) [.agg cs0, .agg cs1] g (.b r) := by
  refine Fw.fv ?_
  unfold F_r04_SameCode at hF
  obtain ⟨vq0, rfl, hcq0⟩ := h0
  have lh0_1 := hcq0.1
  obtain ⟨vq1, rfl, hcq1⟩ := h1
  have lh1_1 := hcq1.1
  refine Fw.enter (N := 39) (al := [(1, _), (0, _)]) Tryz.func59 (by kernel_rfl) (by kernel_rfl) rfl rfl rfl rfl ?_
  intro B
  refine .seq <| .region rfl <| .box .no rfl rfl rfl rfl fun b1 => .box .no rfl rfl rfl rfl fun b2 => .z rfl rfl <| .nil <| sq_n <| .seq <| .seq <| .region rfl <| .p .no rfl (.fa rfl f_24_0) <| .ld .no rfl (.s rfl (.tl .hd) a_9 rfl) <| .p .no rfl (.fa rfl f_24_0) <| .ld .no rfl (.s rfl .hd a_9 rfl) <| .p .no rfl (.binS rfl rfl rfl) <| .m rfl rfl <| .split (t := 11) rfl (fun h3 => ?_) (fun h3 => ?_)
  · have kh3 := dF (nT h3)
    have hF := cT h3 hF
    refine .skip (.yes rfl rfl h3) rfl <| .skip (.yes rfl rfl h3) rfl <| .skip (.yes rfl rfl h3) rfl <| .skip (.yes rfl rfl h3) rfl <| .skip (.yes rfl rfl h3) rfl <| .skip (.yes rfl rfl h3) rfl <| .skip (.yes rfl rfl h3) rfl <| .p .no rfl (.pickT rfl h3 rfl) <| .nil <| sq_n <| .condT rfl rfl <| .seq <| .region rfl <| .z rfl rfl <| .nil <| sq_n <| .ret <| sq_r ?_
    obtain rfl := sI hF
    refine retQ_r (Le.refl _) (.tmp rfl .nil) rfl ?_
    rfl
  · have kh3 := dT (nF h3)
    have hF := cF h3 hF
    refine .p (.yes rfl rfl h3) rfl (.fa rfl f_24_1) <| .ld (.yes rfl rfl h3) rfl (.s rfl (.tl .hd) a_22 rfl) <| .p (.yes rfl rfl h3) rfl (.lenR rfl rfl rfl e_22 hcq0) <| .p (.yes rfl rfl h3) rfl (.fa rfl f_24_1) <| .ld (.yes rfl rfl h3) rfl (.s rfl .hd a_22 rfl) <| .p (.yes rfl rfl h3) rfl (.lenR rfl rfl rfl e_22 hcq1) <| .p (.yes rfl rfl h3) rfl (.bin rfl rfl rfl) <| .p .no rfl (.pickF rfl h3 rfl) <| .nil <| sq_n <| .cond rfl (fun h4 => ?_) (fun h4 => ?_)
    · have kh4 := dF (nT h4)
      have hF := cT h4 hF
      refine .seq <| .region rfl <| .z rfl rfl <| .nil <| sq_n <| .ret <| sq_r ?_
      obtain rfl := sI hF
      refine retQ_r (Le.refl _) (.tmp rfl .nil) rfl ?_
      rfl
    · have kh4 := dT (nF h4)
      have hF := cF h4 hF
      refine .skip <| sq_n <| .seq <| .seq <| .region rfl <| .z rfl rfl <| .nil <| sq_n <| .block ?_
      obtain ⟨o1, hF, hG1⟩ := bS hF
      refine .loopx (α := L_r04_SameCode_1) [(2, _), (3, _)] _ (fun fx x => (5, .i .i64 (x.k1_1 : Int)) :: fx) (fun mx _ => mx) (fun x g' => x.k1_1 ≤ p0.vs.length ∧ F_r04_SameCode_l1 p1 (p0.vs.drop x.k1_1) x.k1_1 = some o1) (fun x => p0.vs.length - x.k1_1) (L_r04_SameCode_1.mk 0) ⟨rfl, rfl, rfl, trivial⟩ (List.Sublist.refl _) ⟨(by first | omega | (dsimp only; omega)), hF⟩ ?_
      intro x1 g1 hle1 hJ1
      obtain ⟨k1_1⟩ := x1
      try dsimp only at hJ1
      obtain ⟨hk1, hF⟩ := hJ1
      refine .al0 [(5, .i .i64 (k1_1 : Int)), (2, _), (3, _)] ?_
      replace hcq0 := hcq0.mono VersionR.mono hle1
      replace hcq1 := hcq1.mono VersionR.mono hle1
      refine .seq <| .seq <| .region rfl <| .m rfl rfl <| .p .no rfl (.fa rfl f_24_1) <| .ld .no rfl (.s rfl (.tl .hd) a_22 rfl) <| .p .no rfl (.lenR rfl rfl rfl e_22 hcq0) <| .b rfl rfl rfl rfl <| .nil <| sq_n <| .cond rfl (fun h5 => ?_) (fun h5 => ?_)
      · have kh5 := dT h5
        obtain ⟨y1, hy1⟩ := getK (l := p0.vs) (k := k1_1) kh5
        rw [dc hy1, F_r04_SameCode_l1] at hF
        refine .skip <| sq_n <| .seq <| .block <| .seq <| .draw (tb := [r0 0 0, r0 1 0, r0 0 0, r0 7 0, r0 15 0, r0 0 0, r0 32 0, r0 0 0, r0 224 0, r0 480 0, r1 1023 0, r1 2047 1]) rfl (by kernel_rfl) (by kernel_rfl) ?_
        refine .p .no rfl (.fa rfl f_24_1) rfl rfl rfl <| .y rfl rfl rfl (.s rfl (.tl .hd) a_22 rfl) <| .m rfl rfl <| .ixk (j := k1_1) .no rfl rfl hcq0 rfl e_22 hy1 ?_
        rintro b6 o6 _ hq6 ⟨p6, lv6, rfl, hp6, hl6⟩
        have lh6_1 := hp6.1
        have lh6_2 := (hl6 0 (by decide)).1
        have lh6_3 := (hl6 1 (by decide)).1
        have lh6_4 := (hl6 2 (by decide)).1
        have lh6_5 := (hl6 3 (by decide)).1
        have lh6_6 := (hl6 4 (by decide)).1
        have lh6_7 := (hl6 5 (by decide)).1
        have lh6_8 := (hl6 6 (by decide)).1
        have lh6_9 := (hl6 7 (by decide)).1
        have lh6_10 := (hl6 8 (by decide)).1
        have lh6_11 := (hl6 9 (by decide)).1
        refine .y rfl rfl rfl (.pa 0 (vs := [_, _, _, _, _, _, _, _, _, _, _, _]) rfl hq6 rfl a_97 s_97 rfl rfl) <| .p .no rfl (.fa rfl f_24_1) rfl rfl rfl <| .y rfl rfl rfl (.s rfl .hd a_22 rfl) <| .m rfl rfl ?_
        obtain ⟨y7, hy7, hF⟩ := bS hF
        have hj7 := atN_lt hy7
        refine .ixk (j := k1_1) .no rfl rfl hcq1 rfl e_22 hy7 ?_
        rintro b7 o7 _ hq7 ⟨p7, lv7, rfl, hp7, hl7⟩
        have lh7_1 := hp7.1
        have lh7_2 := (hl7 0 (by decide)).1
        have lh7_3 := (hl7 1 (by decide)).1
        have lh7_4 := (hl7 2 (by decide)).1
        have lh7_5 := (hl7 3 (by decide)).1
        have lh7_6 := (hl7 4 (by decide)).1
        have lh7_7 := (hl7 5 (by decide)).1
        have lh7_8 := (hl7 6 (by decide)).1
        have lh7_9 := (hl7 7 (by decide)).1
        have lh7_10 := (hl7 8 (by decide)).1
        have lh7_11 := (hl7 9 (by decide)).1
        refine .y rfl rfl rfl (.pa 0 (vs := [_, _, _, _, _, _, _, _, _, _, _, _]) rfl hq7 rfl a_97 s_97 rfl rfl) ?_
        obtain ⟨q8, hq8, hF⟩ := bS hF
        refine .callV .no rfl rfl rfl rfl rfl (F_r04_sameVersion_ok y1 y7 _ _ _ ⟨_, _, rfl, hp6, hl6⟩ ⟨_, _, rfl, hp7, hl7⟩ _ hq8) <| .p .no rfl (.not rfl) rfl rfl rfl <| .nil <| sq_n <| .cond rfl (fun h9 => ?_) (fun h9 => ?_)
        · have kh9 := h9
          have hF := cT h9 hF
          refine .seq <| .region rfl <| .z rfl rfl <| .nil <| sq_n <| .ret <| bq_r <| sq_r <| lq_r <| bq_r <| sq_r ?_
          obtain rfl := sI hF
          have hF := hG1
          obtain rfl := sI hF
          refine retQ_r hle1 (.tmp rfl .nil) rfl ?_
          rfl
        · have kh9 := h9
          have hF := cF h9 hF
          refine .skip <| bq_n <| sq_n <| .region rfl <| .m rfl rfl <| .p .no rfl (.inc1 rfl rfl (by omega)) <| .z rfl rfl <| .nil <| loopQ_n (L_r04_SameCode_1.mk (k1_1 + 1)) ⟨rfl, rfl, rfl, trivial⟩ (List.Sublist.refl _) (Le.refl _) ?_ ?_
          · exact ⟨(atN_lt hy1), hF⟩
          · simp only; omega
      · have kh5 := dF h5
        rw [dn (by omega), F_r04_SameCode_l1] at hF
        obtain rfl := sI hF
        have hF := hG1
        refine .exit <| sq_e <| lq_e <| bq_x rfl <| sq_n <| .seq <| .region rfl <| .z rfl rfl <| .nil <| sq_n <| .ret ?_
        obtain rfl := sI hF
        refine retQ_r hle1 (.tmp rfl .nil) rfl ?_
        rfl
def F_code_InForce (p0 : Code) (p1 : Int) : Option (Int × Int) := ((F_code_of p0).bind fun q2 => ((F_code_question_on q2 p1 0).bind fun q3 => some ((max q3.index_ 0), q3.e_)))
set_option maxHeartbeats 1000000 in
theorem F_code_InForce_ok (p0 : Code) (p1 : Int) (cs0 : List V) (g : G) (h0 : CodeR g cs0 p0) (r : Int × Int) (hF : F_code_InForce p0 p1 = some r) : Fv Tryz.prog natS (.f 55 [] []) [.agg cs0, .i .i64 p1] g (.tup [.i .i64 r.1, .i .i64 r.2]) := by
  refine Fw.fv ?_
  unfold F_code_InForce at hF
  obtain ⟨vq0, rfl, hcq0⟩ := h0
  have lh0_1 := hcq0.1
  refine Fw.enter (N := 20) (al := [(1, _), (0, _)]) Tryz.func55 (by kernel_rfl) (by kernel_rfl) rfl rfl rfl rfl ?_
  intro B
  refine .seq <| .region rfl <| .box .no rfl rfl rfl rfl fun b1 => .z rfl rfl <| .z rfl rfl <| .nil <| sq_n <| .seq <| .region rfl <| .ld .no rfl (.a (vs := [_, _]) rfl .hd a_24 s_24 rfl rfl) ?_
  obtain ⟨q2, hq2, hF⟩ := bS hF
  refine .call .no rfl rfl rfl (F_code_of_ok p0 _ _ ⟨_, rfl, hcq0⟩ _ hq2) ?_
  rintro g2 ml2 r2 hle2 ⟨b2_0, cs2_0, rfl, rfl, ⟨v1_2_0, v3_2_0, v4_2_0, v5_2_0, v6_2_0, v7_2_0, v8_2_0, v9_2_0, v10_2_0, v11_2_0, v12_2_0, v13_2_0, rfl, h1_2_0, h3_2_0, h4_2_0, h5_2_0, h6_2_0, h7_2_0, h8_2_0, h9_2_0, h10_2_0, h11_2_0, h12_2_0, h13_2_0⟩⟩
  replace hcq0 := hcq0.mono VersionR.mono hle2
  have lh2_0_1 := h1_2_0.1
  have lh2_0_3 := h3_2_0.1
  have lh2_0_4 := h4_2_0.1
  have lh2_0_5 := h5_2_0.1
  have lh2_0_6 := h6_2_0.1
  have lh2_0_7 := h7_2_0.1
  have lh2_0_8 := h8_2_0.1
  have lh2_0_9 := h9_2_0.1
  have lh2_0_10 := h10_2_0.1
  have lh2_0_11 := h11_2_0.1
  have lh2_0_12 := h12_2_0.1
  have lh2_0_13 := h13_2_0.1
  refine .m rfl rfl ?_
  obtain ⟨q3, hq3, hF⟩ := bS hF
  refine .callT .no rfl rfl rfl .hd (F_code_question_on_ok q2 p1 0 _ _ _ ⟨_, _, _, _, _, _, _, _, _, _, _, _, rfl, h1_2_0, h3_2_0, h4_2_0, h5_2_0, h6_2_0, h7_2_0, h8_2_0, h9_2_0, h10_2_0, h11_2_0, h12_2_0, h13_2_0⟩ _ hq3) ?_
  rintro g3 ml3 r3 hle3 ⟨cs3_0, rfl, rfl, ⟨v1_3_0, v3_3_0, v4_3_0, v5_3_0, v6_3_0, v7_3_0, v8_3_0, v9_3_0, v10_3_0, v11_3_0, v12_3_0, v13_3_0, rfl, h1_3_0, h3_3_0, h4_3_0, h5_3_0, h6_3_0, h7_3_0, h8_3_0, h9_3_0, h10_3_0, h11_3_0, h12_3_0, h13_3_0⟩⟩
  replace hcq0 := hcq0.mono VersionR.mono hle3
  replace h1_2_0 := h1_2_0.mono VersionR.mono hle3
  replace h3_2_0 := h3_2_0.mono PutR.mono hle3
  replace h4_2_0 := h4_2_0.mono PieceR.mono hle3
  replace h5_2_0 := h5_2_0.mono PieceR.mono hle3
  replace h6_2_0 := h6_2_0.mono PieceR.mono hle3
  replace h7_2_0 := h7_2_0.mono PieceR.mono hle3
  replace h8_2_0 := h8_2_0.mono PieceR.mono hle3
  replace h9_2_0 := h9_2_0.mono PieceR.mono hle3
  replace h10_2_0 := h10_2_0.mono PieceR.mono hle3
  replace h11_2_0 := h11_2_0.mono PieceR.mono hle3
  replace h12_2_0 := h12_2_0.mono PieceR.mono hle3
  replace h13_2_0 := h13_2_0.mono PieceR.mono hle3
  have lh3_0_1 := h1_3_0.1
  have lh3_0_3 := h3_3_0.1
  have lh3_0_4 := h4_3_0.1
  have lh3_0_5 := h5_3_0.1
  have lh3_0_6 := h6_3_0.1
  have lh3_0_7 := h7_3_0.1
  have lh3_0_8 := h8_3_0.1
  have lh3_0_9 := h9_3_0.1
  have lh3_0_10 := h10_3_0.1
  have lh3_0_11 := h11_3_0.1
  have lh3_0_12 := h12_3_0.1
  have lh3_0_13 := h13_3_0.1
  refine .z rfl rfl <| .nil <| sq_n <| .seq <| .draw (tb := [r0 0 0, r0 1 0, r0 3 0, r0 7 0, r0 15 0, r0 0 0, r0 32 0, r0 96 0, r0 224 0, r0 31 0, r1 1023 0]) rfl (by kernel_rfl) (by kernel_rfl) ?_
  refine .m rfl rfl <| .p .no rfl (.nil rfl) rfl rfl rfl <| .p .no rfl (.fa rfl f_132_2) rfl rfl rfl <| .y rfl rfl rfl (.s rfl .hd a_3 rfl) <| .p .no rfl (.mx rfl rfl rfl rfl) rfl rfl rfl <| .m rfl rfl <| .p .no rfl (.nil rfl) rfl rfl rfl <| .p .no rfl (.fa rfl f_132_3) rfl rfl rfl <| .y rfl rfl rfl (.s rfl .hd a_30 rfl) <| .z rfl rfl <| .z rfl rfl <| .nil <| sq_n <| .ret ?_
  obtain rfl := sI hF
  refine retQ_r (hle2.trans hle3) (.tmp rfl (.tmp rfl .nil)) rfl ?_
  rfl
def F_r04_InForce (p0 : Code) (p1 : Int) : Option (Int × Int) := (cond (!(decide ((Code.err p0) = 0))) (some (0, (Code.err p0))) ((cond (!(within p1 0 100000)) (some (0, 6)) ((cond (decide ((forceI p0 p1) < 0)) (some (0, 45)) (some ((forceI p0 p1), 0)))))))
set_option maxHeartbeats 1000000 in
theorem F_r04_InForce_ok (p0 : Code) (p1 : Int) (cs0 : List V) (g : G) (h0 : CodeR g cs0 p0) (r : Int × Int) (hF : F_r04_InForce p0 p1 = some r) : Fv Tryz.prog natS (.f 56 [] []) [.agg cs0, .i .i64 p1] g (.tup [.i .i64 r.1, .i .i64 r.2]) := by
  refine Fw.fv ?_
  unfold F_r04_InForce at hF
  obtain ⟨vq0, rfl, hcq0⟩ := h0
  have lh0_1 := hcq0.1
  refine Fw.enter (N := 22) (al := [(1, _), (0, _)]) Tryz.func56 (by kernel_rfl) (by kernel_rfl) rfl rfl rfl rfl ?_
  intro B
  refine .seq <| .region rfl <| .box .no rfl rfl rfl rfl fun b1 => .z rfl rfl <| .z rfl rfl <| .nil <| sq_n <| .seq <| .region rfl <| .ld .no rfl (.a (vs := [_, _]) rfl .hd a_24 s_24 rfl rfl) <| .callV .no rfl rfl rfl (rCheck_ok _ _ _ ⟨_, rfl, hcq0⟩) <| .z rfl rfl <| .nil <| sq_n <| .seq <| .seq <| .region rfl <| .m rfl rfl <| .b rfl rfl rfl rfl <| .nil <| sq_n <| .cond rfl (fun h3 => ?_) (fun h3 => ?_)
  · have kh3 := dF (nT h3)
    have hF := cT h3 hF
    refine .seq <| .region rfl <| .m rfl rfl <| .z rfl rfl <| .z rfl rfl <| .nil <| sq_n <| .ret <| sq_r ?_
    obtain rfl := sI hF
    refine retQ_r (Le.refl _) (.tmp rfl (.tmp rfl .nil)) rfl ?_
    rfl
  · have kh3 := dT (nF h3)
    have hF := cF h3 hF
    refine .skip <| sq_n <| .seq <| .seq <| .region rfl <| .m rfl rfl <| .callV .no rfl rfl rfl (in_ok _ _ _ _) <| .p .no rfl (.not rfl) <| .nil <| sq_n <| .cond rfl (fun h5 => ?_) (fun h5 => ?_)
    · have kh5 := (nT h5)
      have hF := cT h5 hF
      refine .seq <| .region rfl <| .z rfl rfl <| .z rfl rfl <| .nil <| sq_n <| .ret <| sq_r ?_
      obtain rfl := sI hF
      refine retQ_r (Le.refl _) (.tmp rfl (.tmp rfl .nil)) rfl ?_
      rfl
    · have kh5 := (nF h5)
      have hF := cF h5 hF
      refine .skip <| sq_n <| .seq <| .region rfl <| .ld .no rfl (.a (vs := [_, _]) rfl .hd a_24 s_24 rfl rfl) <| .m rfl rfl <| .callV .no rfl rfl rfl (rforce_ok _ _ _ _ ⟨_, rfl, hcq0⟩) <| .z rfl rfl <| .nil <| sq_n <| .seq <| .seq <| .region rfl <| .m rfl rfl <| .b rfl rfl rfl rfl <| .nil <| sq_n <| .cond rfl (fun h7 => ?_) (fun h7 => ?_)
      · have kh7 := dT h7
        have hF := cT h7 hF
        refine .seq <| .region rfl <| .z rfl rfl <| .z rfl rfl <| .nil <| sq_n <| .ret <| sq_r ?_
        obtain rfl := sI hF
        refine retQ_r (Le.refl _) (.tmp rfl (.tmp rfl .nil)) rfl ?_
        rfl
      · have kh7 := dF h7
        have hF := cF h7 hF
        refine .skip <| sq_n <| .seq <| .region rfl <| .m rfl rfl <| .z rfl rfl <| .z rfl rfl <| .nil <| sq_n <| .ret ?_
        obtain rfl := sI hF
        refine retQ_r (Le.refl _) (.tmp rfl (.tmp rfl .nil)) rfl ?_
        rfl
def F_r04_Amend (p0 : Code) (p1 : Version) : Option (Code × Int) := (cond (!(decide ((Code.err p0) = 0))) (some ((Code.mk [] []), (Code.err p0))) ((cond (!(Version.ok p1)) (some ((Code.mk [] []), 42)) (((atI p0.vs ((p0.vs.length : Int) - 1)).bind fun y8 => (cond (decide (p1.fr ≤ y8.fr)) (some ((Code.mk [] []), 42)) ((cond (decide ((p0.vs.length : Int) = 12)) (some ((Code.mk [] []), 2)) ((ck (decide (([] : List Version).length + p0.vs.length ≤ 1000000)) ((ck (decide (p0.vs.length + 1 ≤ 1000000)) (some ((Code.mk p0.name (p0.vs ++ [p1])), 0))))))))))))))
set_option maxHeartbeats 1000000 in
theorem F_r04_Amend_ok (p0 : Code) (p1 : Version) (cs0 cs1 : List V) (g : G) (h0 : CodeR g cs0 p0) (h1 : VersionR g cs1 p1) (r : Code × Int) (hF : F_r04_Amend p0 p1 = some r) : Fw Tryz.prog natS (.f 58 [] []) [.agg cs0, .agg cs1] g [] fun g' ml' q => ml' = [] ∧ ∃ (ds0 : List V), q = (.tup [.agg ds0, .i .i64 r.2]) ∧ CodeR g' ds0 r.1 := by
  refine Fw.drop ?_
  unfold F_r04_Amend at hF
  obtain ⟨vq0, rfl, hcq0⟩ := h0
  have lh0_1 := hcq0.1
  obtain ⟨pq1, lvq1, rfl, hpq1, hlq1⟩ := h1
  have lh1_1 := hpq1.1
  have lh1_2 := (hlq1 0 (by decide)).1
  have lh1_3 := (hlq1 1 (by decide)).1
  have lh1_4 := (hlq1 2 (by decide)).1
  have lh1_5 := (hlq1 3 (by decide)).1
  have lh1_6 := (hlq1 4 (by decide)).1
  have lh1_7 := (hlq1 5 (by decide)).1
  have lh1_8 := (hlq1 6 (by decide)).1
  have lh1_9 := (hlq1 7 (by decide)).1
  have lh1_10 := (hlq1 8 (by decide)).1
  have lh1_11 := (hlq1 9 (by decide)).1
  refine Fw.enter (N := 47) (al := [(1, _), (0, _)]) Tryz.func58 (by kernel_rfl) (by kernel_rfl) rfl rfl rfl rfl ?_
  intro B
  refine .seq <| .region rfl <| .box .no rfl rfl rfl rfl fun b1 => .box .no rfl rfl rfl rfl fun b2 => .alloc .no rfl z_24 fun b3 => .z rfl rfl <| .nil <| sq_n <| .seq <| .region rfl <| .ld .no rfl (.a (vs := [_, _]) rfl (.tl (.tl .hd)) a_24 s_24 rfl rfl) <| .callV .no rfl rfl rfl (rCheck_ok _ _ _ ⟨_, rfl, hcq0⟩) <| .z rfl rfl <| .nil <| sq_n <| .seq <| .seq <| .region rfl <| .m rfl rfl <| .b rfl rfl rfl rfl <| .nil <| sq_n <| .cond rfl (fun h5 => ?_) (fun h5 => ?_)
  · have kh5 := dF (nT h5)
    have hF := cT h5 hF
    refine .seq <| .region rfl <| .p .no rfl (.build (qs := []) (cs := [_, _]) rfl b_24 rfl) <| .m rfl rfl <| .st (cs' := [_, _]) .no rfl rfl rfl rfl s_24 rfl rfl .hd rfl rfl <| .z rfl rfl <| .nil <| sq_n <| .ret <| sq_r ?_
    obtain rfl := sI hF
    refine retQ_r (Le.refl _) (.cell (.a (vs := [_, _]) rfl .hd a_24 s_24 rfl rfl) (.tmp rfl .nil)) rfl ?_
    exact ⟨_, rfl, ⟨_, rfl, RS.nil⟩⟩
  · have kh5 := dT (nF h5)
    have hF := cF h5 hF
    refine .skip <| sq_n <| .seq <| .seq <| .draw (tb := [r1 0 0, r1 1 0, r1 3 1, r1 7 1, r0 15 1, r0 31 1, r0 15 1, r0 79 1, r0 15 1, r0 271 1, r0 783 1, r0 1807 1, r0 4047 1, r0 8143 1, r0 16335 1, r1 32767 1, r1 65535 1]) rfl (by kernel_rfl) (by kernel_rfl) ?_
    refine .y rfl rfl rfl (.a (vs := [_, _, _, _, _, _, _, _, _, _, _, _]) rfl (.tl .hd) a_97 s_97 rfl rfl) <| .callV .no rfl rfl rfl rfl rfl (rIsVersion_ok _ _ _ ⟨_, _, rfl, hpq1, hlq1⟩) <| .p .no rfl (.not rfl) rfl rfl rfl <| .m rfl rfl <| .split (t := 17) rfl (fun h7 => ?_) (fun h7 => ?_)
    · have kh7 := (nT h7)
      have hF := cT h7 hF
      refine .skip (.yes rfl rfl h7) rfl rfl <| .skip (.yes rfl rfl h7) rfl rfl <| .skip (.yes rfl rfl h7) rfl rfl <| .skip (.yes rfl rfl h7) rfl rfl <| .skip (.yes rfl rfl h7) rfl rfl <| .skip (.yes rfl rfl h7) rfl rfl <| .skip (.yes rfl rfl h7) rfl rfl <| .skip (.yes rfl rfl h7) rfl rfl <| .skip (.yes rfl rfl h7) rfl rfl <| .skip (.yes rfl rfl h7) rfl rfl <| .skip (.yes rfl rfl h7) rfl rfl <| .skip (.yes rfl rfl h7) rfl rfl <| .p .no rfl (.pickT rfl h7 rfl) rfl rfl rfl <| .nil <| sq_n <| .condT rfl rfl <| .seq <| .region rfl <| .p .no rfl (.build (qs := []) (cs := [_, _]) rfl b_24 rfl) <| .st (cs' := [_, _]) .no rfl rfl rfl rfl s_24 rfl rfl .hd rfl rfl <| .z rfl rfl <| .nil <| sq_n <| .ret <| sq_r ?_
      obtain rfl := sI hF
      refine retQ_r (Le.refl _) (.cell (.a (vs := [_, _]) rfl .hd a_24 s_24 rfl rfl) (.tmp rfl .nil)) rfl ?_
      exact ⟨_, rfl, ⟨_, rfl, RS.nil⟩⟩
    · have kh7 := (nF h7)
      have hF := cF h7 hF
      refine .p (.yes rfl rfl h7) rfl (.fa rfl f_97_0) rfl rfl rfl <| .ld (k := 0) (.yes rfl rfl h7) rfl rfl rfl trivial (.s rfl (.tl .hd) a_3 rfl) <| .p (.yes rfl rfl h7) rfl (.fa rfl f_24_1) rfl rfl rfl <| .ld (k := 0) (.yes rfl rfl h7) rfl rfl rfl trivial (.s rfl (.tl (.tl .hd)) a_22 rfl) <| .p (.yes rfl rfl h7) rfl (.fa rfl f_24_1) rfl rfl rfl <| .ld (k := 0) (.yes rfl rfl h7) rfl rfl rfl trivial (.s rfl (.tl (.tl .hd)) a_22 rfl) <| .p (.yes rfl rfl h7) rfl (.lenR rfl rfl rfl e_22 hcq0) rfl rfl rfl <| .p (.yes rfl rfl h7) rfl (.sub rfl rfl (by omega)) rfl rfl rfl ?_
      obtain ⟨y8, hy8, hF⟩ := bS hF
      have hj8 := atI_lt hy8
      refine .ixl (.yes rfl rfl h7) rfl rfl hcq0 rfl e_22 hy8 ?_
      rintro b8 o8 _ hq8 ⟨p8, lv8, rfl, hp8, hl8⟩
      have lh8_1 := hp8.1
      have lh8_2 := (hl8 0 (by decide)).1
      have lh8_3 := (hl8 1 (by decide)).1
      have lh8_4 := (hl8 2 (by decide)).1
      have lh8_5 := (hl8 3 (by decide)).1
      have lh8_6 := (hl8 4 (by decide)).1
      have lh8_7 := (hl8 5 (by decide)).1
      have lh8_8 := (hl8 6 (by decide)).1
      have lh8_9 := (hl8 7 (by decide)).1
      have lh8_10 := (hl8 8 (by decide)).1
      have lh8_11 := (hl8 9 (by decide)).1
      refine .p (.yes rfl rfl h7) rfl (.fa rfl f_97_0) rfl rfl rfl <| .ld (k := 0) (.yes rfl rfl h7) rfl rfl rfl trivial (.ps 0 rfl hq8 rfl a_3 rfl) <| .p (.yes rfl rfl h7) rfl (.bin rfl rfl rfl) rfl rfl rfl <| .p .no rfl (.pickF rfl h7 rfl) rfl rfl rfl <| .nil <| sq_n <| .cond rfl (fun h9 => ?_) (fun h9 => ?_)
      · have kh9 := dT h9
        have hF := cT h9 hF
        refine .seq <| .region rfl <| .p .no rfl (.build (qs := []) (cs := [_, _]) rfl b_24 rfl) <| .st (cs' := [_, _]) .no rfl rfl rfl rfl s_24 rfl rfl .hd rfl rfl <| .z rfl rfl <| .nil <| sq_n <| .ret <| sq_r ?_
        obtain rfl := sI hF
        refine retQ_r (Le.refl _) (.cell (.a (vs := [_, _]) rfl .hd a_24 s_24 rfl rfl) (.tmp rfl .nil)) rfl ?_
        exact ⟨_, rfl, ⟨_, rfl, RS.nil⟩⟩
      · have kh9 := dF h9
        have hF := cF h9 hF
        refine .skip <| sq_n <| .seq <| .seq <| .region rfl <| .p .no rfl (.fa rfl f_24_1) <| .ld .no rfl (.s rfl (.tl (.tl .hd)) a_22 rfl) <| .p .no rfl (.lenR rfl rfl rfl e_22 hcq0) <| .b rfl rfl rfl rfl <| .nil <| sq_n <| .cond rfl (fun h10 => ?_) (fun h10 => ?_)
        · have kh10 := dT h10
          have hF := cT h10 hF
          refine .seq <| .region rfl <| .p .no rfl (.build (qs := []) (cs := [_, _]) rfl b_24 rfl) <| .st (cs' := [_, _]) .no rfl rfl rfl rfl s_24 rfl rfl .hd rfl rfl <| .z rfl rfl <| .nil <| sq_n <| .ret <| sq_r ?_
          obtain rfl := sI hF
          refine retQ_r (Le.refl _) (.cell (.a (vs := [_, _]) rfl .hd a_24 s_24 rfl rfl) (.tmp rfl .nil)) rfl ?_
          exact ⟨_, rfl, ⟨_, rfl, RS.nil⟩⟩
        · have kh10 := dF h10
          have hF := cF h10 hF
          refine .skip <| sq_n <| .seq <| .region rfl <| .ld .no rfl (.a (vs := [_, _]) rfl (.tl (.tl .hd)) a_24 s_24 rfl rfl) <| .alloc .no rfl z_24 fun b11 => .st (cs' := [_, _]) .no rfl rfl rfl rfl s_24 rfl rfl .hd rfl (allOne_cons rfl (allOne_cons hcq0.one rfl)) <| .nil <| sq_n <| .seq <| .draw (tb := [r0 0 0, r0 0 0, r0 2 0, r0 7 0, r0 0 0, r0 16 0, r1 63 1, r1 127 2, r1 255 2]) rfl (by kernel_rfl) (by kernel_rfl) ?_
          refine .f .no rfl (.bs (qs := []) (c := []) rfl sl_22 el_97 (by decide) rfl) fun b12 => .p .no rfl (.fa rfl f_24_1) rfl rfl rfl <| .y rfl rfl rfl (.s rfl (.tl (.tl (.tl .hd))) a_22 rfl) <| .see0 (seeEm0 12 97 (show Em (.sl b12 0 0 0) from .inr (.inr ⟨_, _, rfl⟩))) ?_
          obtain ⟨hl14, hF⟩ := ckS hF
          have hl14 := of_decide_eq_true hl14
          refine .ne .hd (.tl (.tl (.tl .hd))) fun hn14_b1 => .ne .hd (.tl (.tl .hd)) fun hn14_b2 => .appR .no rfl (pinF_t rfl pinF_n) (restA_t rfl restA_n) (fun _ _ => .all (allA_c rfl rfl)) rfl rfl rfl (fun _ => (.tl .hd)) sl_22 sl_22 el_97 (AccR.em (R := VersionR) (s := 12) (g := g) (show Em (.sl b12 0 0 0) from .inr (.inr ⟨_, _, rfl⟩))) hcq0 (fun _ _ h => VersionR.one h) hl14 fun new14 v14 hn14 => .as (.tl .hd) fun av14 => ?_
          have ha14 := AccR.app (R := VersionR) (g := g) (ys := p0.vs) (AccR.em (R := VersionR) (s := 12) (g := g) (show Em (.sl b12 0 0 0) from .inr (.inr ⟨_, _, rfl⟩))) hn14 hl14 av14
          have lha14 := ha14.le
          refine .ld (k := 1) .no rfl rfl rfl (FrS.cons hn14_b2 trivial) (.a (vs := [_, _, _, _, _, _, _, _, _, _, _, _]) rfl (.tl (.tl (.tl .hd))) a_97 s_97 rfl rfl) <| .f .no rfl (.bs (qs := [(0, _)]) (c := [_, _, _, _, _, _, _, _, _, _, _, _]) rfl sl_22 el_97 (by decide) rfl) fun b15 => ?_
          obtain ⟨hl16, hF⟩ := ckS hF
          have hl16 := of_decide_eq_true hl16
          refine .ne (.tl .hd) (.tl (.tl (.tl .hd))) fun hn16_b2 => .ne (.tl .hd) (.tl (.tl (.tl (.tl .hd)))) fun hn16_b1 => .x .no rfl rfl (pinF_t rfl pinF_n) (restA_t rfl restA_n) (mo_app rfl) (fun _ _ => .all (allA_c rfl (allA_c rfl rfl))) (.appA (m := 1) (new := [_, _, _, _, _, _, _, _, _, _, _, _]) rfl rfl rfl (.tl (.tl .hd)) sl_22 el_97 (.of rfl .sl sl_22 .hd (Nat.le_of_ble_eq_true rfl) rfl) (by decide) rfl (AccR.room (R := VersionR) (ys := [p1]) ha14 (Ls.cons (c := [_, _, _, _, _, _, _, _, _, _, _, _]) rfl (VersionR.of hpq1 (hlq1 0 (by decide)) (hlq1 1 (by decide)) (hlq1 2 (by decide)) (hlq1 3 (by decide)) (hlq1 4 (by decide)) (hlq1 5 (by decide)) (hlq1 6 (by decide)) (hlq1 7 (by decide)) (hlq1 8 (by decide)) (hlq1 9 (by decide))) .nil) hl16) (allOne_cons rfl (allOne_cons hpq1.one (allOne_cons (hlq1 0 (by decide)).one (allOne_cons (hlq1 1 (by decide)).one (allOne_cons (hlq1 2 (by decide)).one (allOne_cons (hlq1 3 (by decide)).one (allOne_cons (hlq1 4 (by decide)).one (allOne_cons (hlq1 5 (by decide)).one (allOne_cons (hlq1 6 (by decide)).one (allOne_cons (hlq1 7 (by decide)).one (allOne_cons (hlq1 8 (by decide)).one (allOne_cons (hlq1 9 (by decide)).one rfl))))))))))))) fun v16 => .as (.tl (.tl .hd)) fun av16 => ?_
          have ha16 := AccR.app (R := VersionR) (g := g) (ys := [p1]) ha14 (Ls.cons (c := [_, _, _, _, _, _, _, _, _, _, _, _]) rfl (VersionR.of hpq1 (hlq1 0 (by decide)) (hlq1 1 (by decide)) (hlq1 2 (by decide)) (hlq1 3 (by decide)) (hlq1 4 (by decide)) (hlq1 5 (by decide)) (hlq1 6 (by decide)) (hlq1 7 (by decide)) (hlq1 8 (by decide)) (hlq1 9 (by decide))) .nil) hl16 av16
          have lha16 := ha16.le
          refine .p .no rfl (.fa rfl f_24_1) rfl rfl rfl <| .st (cs' := [_, _]) .no rfl rfl rfl rfl ha16.any ha16.cells s_22 rfl rfl (.tl (.tl (.tl .hd))) rfl (allOne_cons ha16.one rfl) (.all (allA_c rfl (allA_c rfl rfl))) <| .nil <| sq_n <| .seq <| .region rfl <| .ld .no rfl (.a (vs := [_, _]) rfl (.tl (.tl (.tl .hd))) a_24 s_24 rfl rfl) <| .st (cs' := [_, _]) .no rfl rfl rfl rfl s_24 rfl rfl (.tl (.tl (.tl (.tl .hd)))) rfl (allOne_cons rfl (allOne_cons ha16.one rfl)) <| .z rfl rfl <| .nil <| sq_n <| .see (seeFreeze VersionR.mono (.tl (.tl .hd)) (by decide) ha16) ?_
          rintro gz17 ⟨hle17, hz17⟩
          replace hcq0 := hcq0.mono VersionR.mono hle17
          replace hpq1 := hpq1.mono PutR.mono hle17
          replace hlq1 := fun k hk => (hlq1 k hk).mono PieceR.mono hle17
          replace hq8 := hq8.mono hle17
          replace hp8 := hp8.mono PutR.mono hle17
          replace hl8 := fun k hk => (hl8 k hk).mono PieceR.mono hle17
          replace ha14 := ha14.mono VersionR.mono hle17
          replace ha16 := ha16.mono VersionR.mono hle17
          refine .ret ?_
          obtain rfl := sI hF
          refine retQ_r hle17 (.cell (.a (vs := [_, _]) rfl (.tl (.tl (.tl .hd))) a_24 s_24 rfl rfl) (.tmp rfl .nil)) rfl ?_
          exact ⟨_, rfl, ⟨_, rfl, hz17⟩⟩
structure L_code_copied_1 where
  k1_1 : Nat
  z1_2 : Int
  cs1_5 : List V
  d1_3 : List Put
  v1_8 : V
  d1_7 : List Piece
  v1_11 : V
  d1_10 : List Piece
  v1_14 : V
  d1_13 : List Piece
  v1_17 : V
  d1_16 : List Piece
  v1_20 : V
  d1_19 : List Piece
  v1_23 : V
  d1_22 : List Piece
  v1_26 : V
  d1_25 : List Piece
  v1_29 : V
  d1_28 : List Piece
  v1_32 : V
  d1_31 : List Piece
  v1_35 : V
  d1_34 : List Piece
def F_code_copied_l1 : Nat → Nat → Int → List Put → List Piece → List Piece → List Piece → List Piece → List Piece → List Piece → List Piece → List Piece → List Piece → List Piece → Option ((Int × List Put × List Piece × List Piece × List Piece × List Piece × List Piece × List Piece × List Piece × List Piece × List Piece × List Piece))
  | 0, k1_1, z1_2, d1_3, d1_7, d1_10, d1_13, d1_16, d1_19, d1_22, d1_25, d1_28, d1_31, d1_34 => some ((z1_2, d1_3, d1_7, d1_10, d1_13, d1_16, d1_19, d1_22, d1_25, d1_28, d1_31, d1_34))
  | mm1 + 1, k1_1, z1_2, d1_3, d1_7, d1_10, d1_13, d1_16, d1_19, d1_22, d1_25, d1_28, d1_31, d1_34 => ((atI d1_3 (k1_1 : Int)).bind fun y5 => ((F_slices_Clone_api_Test_api_Test y5.tests).bind fun q7 => ((atI d1_3 (k1_1 : Int)).bind fun y8 => F_code_copied_l1 mm1 (k1_1 + 1) z1_2 (List.set d1_3 k1_1 (Put.mk y8.group q7)) d1_7 d1_10 d1_13 d1_16 d1_19 d1_22 d1_25 d1_28 d1_31 d1_34)))
def F_code_copied (p0 : Version) : Option (Version) := ((F_slices_Clone_api_Put_api_Put p0.puts).bind fun q3 => ((F_code_copied_l1 (((q3.length : Int) - (0 : Int)).toNat) 0 p0.fr q3 (p0.ln 0) (p0.ln 1) (p0.ln 2) (p0.ln 3) (p0.ln 4) (p0.ln 5) (p0.ln 6) (p0.ln 7) (p0.ln 8) (p0.ln 9)).bind fun ⟨o1_0_1, o1_0_2, o1_0_3, o1_0_4, o1_0_5, o1_0_6, o1_0_7, o1_0_8, o1_0_9, o1_0_10, o1_0_11, o1_0_12⟩ => ((F_slices_Clone_api_Piece_api_Piece o1_0_3).bind fun q11 => ((F_slices_Clone_api_Piece_api_Piece o1_0_4).bind fun q12 => ((F_slices_Clone_api_Piece_api_Piece o1_0_5).bind fun q13 => ((F_slices_Clone_api_Piece_api_Piece o1_0_6).bind fun q14 => ((F_slices_Clone_api_Piece_api_Piece o1_0_7).bind fun q15 => ((F_slices_Clone_api_Piece_api_Piece o1_0_8).bind fun q16 => ((F_slices_Clone_api_Piece_api_Piece o1_0_9).bind fun q17 => ((F_slices_Clone_api_Piece_api_Piece o1_0_10).bind fun q18 => ((F_slices_Clone_api_Piece_api_Piece o1_0_11).bind fun q19 => ((F_slices_Clone_api_Piece_api_Piece o1_0_12).bind fun q20 => some (Version.mk o1_0_1 o1_0_2 (arr [q11, q12, q13, q14, q15, q16, q17, q18, q19, q20] q11))))))))))))))
set_option maxHeartbeats 1000000 in
theorem F_code_copied_ok (p0 : Version) (cs0 : List V) (g : G) (h0 : VersionR g cs0 p0) (r : Version) (hF : F_code_copied p0 = some r) : Fw Tryz.prog natS (.f 104 [] []) [.agg cs0] g [] fun g' ml' q => ml' = [] ∧ ∃ (ds0 : List V), q = (.agg ds0) ∧ VersionR g' ds0 r := by
  refine Fw.drop ?_
  unfold F_code_copied at hF
  obtain ⟨pq0, lvq0, rfl, hpq0, hlq0⟩ := h0
  have lh0_1 := hpq0.1
  have lh0_2 := (hlq0 0 (by decide)).1
  have lh0_3 := (hlq0 1 (by decide)).1
  have lh0_4 := (hlq0 2 (by decide)).1
  have lh0_5 := (hlq0 3 (by decide)).1
  have lh0_6 := (hlq0 4 (by decide)).1
  have lh0_7 := (hlq0 5 (by decide)).1
  have lh0_8 := (hlq0 6 (by decide)).1
  have lh0_9 := (hlq0 7 (by decide)).1
  have lh0_10 := (hlq0 8 (by decide)).1
  have lh0_11 := (hlq0 9 (by decide)).1
  refine Fw.enter (N := 50) (al := [(0, _)]) Tryz.func104 (by kernel_rfl) (by kernel_rfl) rfl rfl rfl rfl ?_
  intro B
  refine .seq <| .region rfl <| .box .no rfl rfl rfl rfl fun b1 => .alloc .no rfl z_97 fun b2 => .nil <| sq_n <| .seq <| .region rfl <| .p .no rfl (.fa rfl f_97_1) <| .ld .no rfl (.s rfl (.tl .hd) a_92 rfl) ?_
  obtain ⟨q3, hq3, hF⟩ := bS hF
  refine .call .no rfl rfl rfl (F_slices_Clone_api_Put_api_Put_ok p0.puts _ _ hpq0 _ hq3) ?_
  rintro g3 ml3 r3 hle3 ⟨cs3_0, w3_0, rfl, rfl, ha3_0⟩
  replace hpq0 := hpq0.mono PutR.mono hle3
  replace hlq0 := fun k hk => (hlq0 k hk).mono PieceR.mono hle3
  have lha3_0 := ha3_0.le
  refine .p .no rfl (.fa rfl f_97_1) <| .st (cs' := [_, _, _, _, _, _, _, _, _, _, _, _]) .no rfl rfl ha3_0.any ha3_0.cells s_92 rfl rfl (.tl (.tl .hd)) rfl (allOne_cons ha3_0.one rfl) <| .nil <| sq_n <| .seq <| .seq <| .region rfl <| .p .no rfl (.fa rfl f_97_1) <| .ld .no rfl (.s rfl (.tl (.tl .hd)) a_92 rfl) <| .p .no rfl (.lenA rfl rfl rfl e_92 (by decide) ha3_0) <| .m rfl rfl <| .nil <| sq_n <| .block ?_
  obtain ⟨o1, hF, hG1⟩ := bS hF
  refine .loopx (α := L_code_copied_1) [(1, _), (2, _), (13, _), (14, _)] [_] (fun fx x => (15, .i .i64 (x.k1_1 : Int)) :: fx) (fun mx x => [.acc r3 2 x.cs1_5 170, rg mx 0, .blk b1 (.cells [.i .i64 x.z1_2, r3, x.v1_8, x.v1_11, x.v1_14, x.v1_17, x.v1_20, x.v1_23, x.v1_26, x.v1_29, x.v1_32, x.v1_35] 97)]) (fun x g' => AccR PutR 2 g' r3 x.cs1_5 x.d1_3 ∧ RS PieceR 3 g' x.v1_8 x.d1_7 ∧ RS PieceR 3 g' x.v1_11 x.d1_10 ∧ RS PieceR 3 g' x.v1_14 x.d1_13 ∧ RS PieceR 3 g' x.v1_17 x.d1_16 ∧ RS PieceR 3 g' x.v1_20 x.d1_19 ∧ RS PieceR 3 g' x.v1_23 x.d1_22 ∧ RS PieceR 3 g' x.v1_26 x.d1_25 ∧ RS PieceR 3 g' x.v1_29 x.d1_28 ∧ RS PieceR 3 g' x.v1_32 x.d1_31 ∧ RS PieceR 3 g' x.v1_35 x.d1_34 ∧ F_code_copied_l1 (((q3.length : Int) - (x.k1_1 : Int)).toNat) x.k1_1 x.z1_2 x.d1_3 x.d1_7 x.d1_10 x.d1_13 x.d1_16 x.d1_19 x.d1_22 x.d1_25 x.d1_28 x.d1_31 x.d1_34 = some o1) (fun x => ((q3.length : Int) - (x.k1_1 : Int)).toNat) (L_code_copied_1.mk 0 p0.fr _ q3 _ (p0.ln 0) _ (p0.ln 1) _ (p0.ln 2) _ (p0.ln 3) _ (p0.ln 4) _ (p0.ln 5) _ (p0.ln 6) _ (p0.ln 7) _ (p0.ln 8) _ (p0.ln 9)) ⟨rfl, rfl, rfl, rfl, rfl, trivial⟩ (List.Sublist.refl _) ⟨ha3_0, (hlq0 0 (by decide)), (hlq0 1 (by decide)), (hlq0 2 (by decide)), (hlq0 3 (by decide)), (hlq0 4 (by decide)), (hlq0 5 (by decide)), (hlq0 6 (by decide)), (hlq0 7 (by decide)), (hlq0 8 (by decide)), (hlq0 9 (by decide)), hF⟩ ?_
  intro x1 g1 hle1 hJ1
  obtain ⟨k1_1, z1_2, cs1_5, d1_3, v1_8, d1_7, v1_11, d1_10, v1_14, d1_13, v1_17, d1_16, v1_20, d1_19, v1_23, d1_22, v1_26, d1_25, v1_29, d1_28, v1_32, d1_31, v1_35, d1_34⟩ := x1
  try dsimp only at hJ1
  obtain ⟨ha1_6, hr1_9, hr1_12, hr1_15, hr1_18, hr1_21, hr1_24, hr1_27, hr1_30, hr1_33, hr1_36, hF⟩ := hJ1
  refine .al0 [(15, .i .i64 (k1_1 : Int)), (1, _), (2, _), (13, _), (14, _)] ?_
  replace hpq0 := hpq0.mono PutR.mono hle1
  replace hlq0 := fun k hk => (hlq0 k hk).mono PieceR.mono hle1
  replace ha3_0 := ha3_0.mono PutR.mono hle1
  have lha1_6 := ha1_6.le
  have lhr1_9 := hr1_9.1
  have lhr1_12 := hr1_12.1
  have lhr1_15 := hr1_15.1
  have lhr1_18 := hr1_18.1
  have lhr1_21 := hr1_21.1
  have lhr1_24 := hr1_24.1
  have lhr1_27 := hr1_27.1
  have lhr1_30 := hr1_30.1
  have lhr1_33 := hr1_33.1
  have lhr1_36 := hr1_36.1
  refine .seq <| .region rfl <| .b rfl rfl rfl rfl <| .nil <| sq_n <| .seq <| .cond rfl (fun h4 => ?_) (fun h4 => ?_)
  · have kh4 := dT h4
    have em1 : ((q3.length : Int) - (k1_1 : Int)).toNat = ((q3.length : Int) - ((k1_1 + 1 : Nat) : Int)).toNat + 1 := by omega
    rw [em1, F_code_copied_l1] at hF
    refine .skip <| sq_n <| .seq <| .block <| .seq <| .region rfl <| .m rfl rfl ?_
    obtain ⟨y5, hy5, hF⟩ := bS hF
    have hj5 := atI_lt hy5
    have hy5 := atI_get hy5
    refine .ixA .no rfl rfl ha1_6 rfl e_92 (by decide) hj5.1 hy5 ?_
    intro b5 n5 cs5 hv5 hc5 hd5 hr5
    obtain ⟨v5, rfl, ht5⟩ := hr5
    have lh5_1 := ht5.1
    refine .ld .no rfl (.aa 0 (vs := [_, _]) rfl (.acc hv5 rfl) rfl hd5 hc5 (AccR.cellsLe ha1_6 hy5) a_170 s_170 rfl rfl) <| .alloc .no rfl z_170 fun b6 => .z rfl rfl <| .st (cs' := [_, _]) .no rfl rfl rfl rfl s_170 rfl rfl .hd rfl (allOne_cons rfl (allOne_cons ht5.one rfl)) <| .nil <| sq_n <| .draw (tb := [r0 0 0, r0 1 0, r0 0 0, r0 0 0, r0 8 0, r0 24 0, r1 63 1, r1 127 1, r1 255 1]) rfl (by kernel_rfl) (by kernel_rfl) ?_
    refine .p .no rfl (.fa rfl f_97_1) rfl rfl rfl <| .y rfl rfl rfl (.s rfl (.tl (.tl (.tl .hd))) a_92 rfl) <| .m rfl rfl <| .p .no rfl (.fa rfl f_170_1) rfl rfl rfl <| .y rfl rfl rfl (.s rfl .hd a_168 rfl) ?_
    obtain ⟨q7, hq7, hF⟩ := bS hF
    refine .call .no rfl rfl rfl rfl rfl (F_slices_Clone_api_Test_api_Test_ok y5.tests _ _ ht5 _ hq7) ?_
    rintro g7 ml7 r7 hle7 ⟨cs7_0, w7_0, rfl, rfl, ha7_0⟩
    replace hpq0 := hpq0.mono PutR.mono hle7
    replace hlq0 := fun k hk => (hlq0 k hk).mono PieceR.mono hle7
    replace ha3_0 := ha3_0.mono PutR.mono hle7
    replace ha1_6 := ha1_6.mono PutR.mono hle7
    replace hr1_9 := hr1_9.mono PieceR.mono hle7
    replace hr1_12 := hr1_12.mono PieceR.mono hle7
    replace hr1_15 := hr1_15.mono PieceR.mono hle7
    replace hr1_18 := hr1_18.mono PieceR.mono hle7
    replace hr1_21 := hr1_21.mono PieceR.mono hle7
    replace hr1_24 := hr1_24.mono PieceR.mono hle7
    replace hr1_27 := hr1_27.mono PieceR.mono hle7
    replace hr1_30 := hr1_30.mono PieceR.mono hle7
    replace hr1_33 := hr1_33.mono PieceR.mono hle7
    replace hr1_36 := hr1_36.mono PieceR.mono hle7
    replace ht5 := ht5.mono TestR.mono hle7
    have lha7_0 := ha7_0.le
    obtain ⟨y8, hy8, hF⟩ := bS hF
    have hj8 := atI_lt hy8
    have hy8 := atI_get hy8
    refine .ixA .no rfl rfl ha1_6 rfl e_92 (by decide) hj8.1 hy8 ?_
    intro b8 n8 cs8 hv8 hc8 hd8 hr8
    obtain ⟨v8, rfl, ht8⟩ := hr8
    have lh8_1 := ht8.1
    refine .p .no rfl (.fa rfl f_170_1) rfl rfl rfl <| .see (seeFreeze TestR.mono .hd (by decide) ha7_0) ?_
    rintro gz9 ⟨hle9, hz9⟩
    replace hpq0 := hpq0.mono PutR.mono hle9
    replace hlq0 := fun k hk => (hlq0 k hk).mono PieceR.mono hle9
    replace ha3_0 := ha3_0.mono PutR.mono hle9
    replace ha1_6 := ha1_6.mono PutR.mono hle9
    replace hr1_9 := hr1_9.mono PieceR.mono hle9
    replace hr1_12 := hr1_12.mono PieceR.mono hle9
    replace hr1_15 := hr1_15.mono PieceR.mono hle9
    replace hr1_18 := hr1_18.mono PieceR.mono hle9
    replace hr1_21 := hr1_21.mono PieceR.mono hle9
    replace hr1_24 := hr1_24.mono PieceR.mono hle9
    replace hr1_27 := hr1_27.mono PieceR.mono hle9
    replace hr1_30 := hr1_30.mono PieceR.mono hle9
    replace hr1_33 := hr1_33.mono PieceR.mono hle9
    replace hr1_36 := hr1_36.mono PieceR.mono hle9
    replace ht5 := ht5.mono TestR.mono hle9
    replace ha7_0 := ha7_0.mono TestR.mono hle9
    replace ht8 := ht8.mono TestR.mono hle9
    refine .see0 (seeBlk0 (.tl .hd) hv8) <| .st (cs' := _) .no rfl rfl rfl rfl hz9.any hz9.cells s_168 rfl rfl .hd (AccR.ble (k := 1) ha1_6 hy8 (by decide)) (allOne_cons hz9.one rfl) (.all (allA_c rfl (allA_c rfl rfl))) ?_
    have ha10 := AccR.set (k := 1) (us := [r7]) (y' := (Put.mk y8.group q7)) ha1_6 hy8 hd8 (Nat.le_of_ble_eq_true rfl) ⟨_, rfl, hz9⟩
    have hd10 := AccR.part (k := 1) (us := [r7]) ha1_6 hy8 hd8 (Nat.le_of_ble_eq_true rfl)
    refine .see0 (seeAcc0 .hd hv8 ha10.sh) ?_
    have lha10 := ha10.le
    refine .nil <| bq_n <| sq_n <| .region rfl <| .p .no rfl (.inc1 rfl rfl (by omega)) <| .m rfl rfl <| .nil <| loopQ_n (L_code_copied_1.mk (k1_1 + 1) z1_2 _ (List.set d1_3 k1_1 (Put.mk y8.group q7)) _ d1_7 _ d1_10 _ d1_13 _ d1_16 _ d1_19 _ d1_22 _ d1_25 _ d1_28 _ d1_31 _ d1_34) ⟨rfl, rfl, rfl, rfl, rfl, trivial⟩ (.cons_cons _ (.cons _ (List.Sublist.refl _))) (hle7.trans hle9) ?_ ?_
    · exact ⟨ha10, hr1_9, hr1_12, hr1_15, hr1_18, hr1_21, hr1_24, hr1_27, hr1_30, hr1_33, hr1_36, hF⟩
    · simp only; omega
  · have kh4 := dF h4
    have em1 : ((q3.length : Int) - (k1_1 : Int)).toNat = 0 := by omega
    rw [em1, F_code_copied_l1] at hF
    obtain rfl := sI hF
    have hF := hG1
    refine .exit <| sq_e <| lq_e <| bq_x rfl <| sq_n <| .seq <| .seq <| .region rfl <| .m rfl rfl <| .nil <| sq_n <| .block <| .unroll <| .seq <| .region rfl <| .b rfl rfl rfl rfl <| .nil <| sq_n <| .seq <| .condT rfl (by decide) <| .skip <| sq_n <| .seq <| .block <| .seq <| .region rfl <| .m rfl rfl <| .z rfl rfl <| .nil <| sq_n <| .seq <| .region rfl <| .m rfl rfl <| .p .no rfl (.fa rfl f_97_2) <| .p .no rfl (.ixa (j := 0) rfl rfl ae_95 (by decide)) <| .ld .no rfl (.a (vs := [_, _, _, _, _]) rfl (.tl (.tl .hd)) a_94 s_94 rfl rfl) <| .m rfl rfl <| .nil <| sq_n ?_
    refine .block <| .unroll <| .seq <| .region rfl <| .b rfl rfl rfl rfl <| .nil <| sq_n <| .seq <| .condT rfl (by decide) <| .skip <| sq_n <| .seq <| .block <| .seq <| .region rfl <| .m rfl rfl <| .p .no rfl (.ixv (j := 0) rfl rfl ar_94 s_93 (by decide) (partV_s a_93 rfl)) <| .z rfl rfl <| .z rfl rfl <| .nil <| sq_n <| .draw (tb := [r1 0 0, r1 0 0, r1 0 0, r1 4 0, r1 0 0, r1 17 0, r1 63 1, r1 127 1]) rfl (by kernel_rfl) (by kernel_rfl) ?_
    refine .m rfl rfl <| .m rfl rfl <| .m rfl rfl ?_
    obtain ⟨q11, hq11, hF⟩ := bS hF
    refine .call .no rfl rfl rfl rfl rfl (F_slices_Clone_api_Piece_api_Piece_ok d1_7 _ _ hr1_9 _ hq11) ?_
    rintro g11 ml11 r11 hle11 ⟨cs11_0, w11_0, rfl, rfl, ha11_0⟩
    replace hpq0 := hpq0.mono PutR.mono hle11
    replace hlq0 := fun k hk => (hlq0 k hk).mono PieceR.mono hle11
    replace ha3_0 := ha3_0.mono PutR.mono hle11
    replace ha1_6 := ha1_6.mono PutR.mono hle11
    replace hr1_9 := hr1_9.mono PieceR.mono hle11
    replace hr1_12 := hr1_12.mono PieceR.mono hle11
    replace hr1_15 := hr1_15.mono PieceR.mono hle11
    replace hr1_18 := hr1_18.mono PieceR.mono hle11
    replace hr1_21 := hr1_21.mono PieceR.mono hle11
    replace hr1_24 := hr1_24.mono PieceR.mono hle11
    replace hr1_27 := hr1_27.mono PieceR.mono hle11
    replace hr1_30 := hr1_30.mono PieceR.mono hle11
    replace hr1_33 := hr1_33.mono PieceR.mono hle11
    replace hr1_36 := hr1_36.mono PieceR.mono hle11
    have lha11_0 := ha11_0.le
    refine .p .no rfl (.fa rfl f_97_2) rfl rfl rfl <| .p .no rfl (.ixa (j := 0) rfl rfl ae_95 (by decide)) rfl rfl rfl <| .p .no rfl (.ixa (j := 0) rfl rfl ae_94 (by decide)) rfl rfl rfl <| .st (cs' := [_, _, _, _, _, _, _, _, _, _, _, _]) .no rfl rfl rfl rfl ha11_0.any ha11_0.cells s_93 rfl rfl (.tl (.tl (.tl .hd))) rfl (allOne_cons ha11_0.one rfl) (.all rfl) <| .nil <| bq_n <| sq_n <| .region rfl <| .p .no rfl (.addL (c := 1) rfl rfl rfl (by decide)) <| .m rfl rfl <| .nil <| sq_n <| .unroll <| .seq <| .region rfl <| .b rfl rfl rfl rfl <| .nil <| sq_n <| .seq <| .condT rfl (by decide) <| .skip <| sq_n <| .seq <| .block <| .seq <| .region rfl <| .m rfl rfl <| .p .no rfl (.ixv (j := 1) rfl rfl ar_94 s_93 (by decide) (partV_s a_93 rfl)) <| .z rfl rfl <| .z rfl rfl <| .nil <| sq_n <| .draw (tb := [r1 0 0, r1 0 0, r1 0 0, r1 4 0, r1 0 0, r1 17 0, r1 63 1, r1 127 1]) rfl (by kernel_rfl) (by kernel_rfl) ?_
    refine .m rfl rfl <| .m rfl rfl <| .m rfl rfl ?_
    obtain ⟨q12, hq12, hF⟩ := bS hF
    refine .call .no rfl rfl rfl rfl rfl (F_slices_Clone_api_Piece_api_Piece_ok d1_10 _ _ hr1_12 _ hq12) ?_
    rintro g12 ml12 r12 hle12 ⟨cs12_0, w12_0, rfl, rfl, ha12_0⟩
    replace hpq0 := hpq0.mono PutR.mono hle12
    replace hlq0 := fun k hk => (hlq0 k hk).mono PieceR.mono hle12
    replace ha3_0 := ha3_0.mono PutR.mono hle12
    replace ha1_6 := ha1_6.mono PutR.mono hle12
    replace hr1_9 := hr1_9.mono PieceR.mono hle12
    replace hr1_12 := hr1_12.mono PieceR.mono hle12
    replace hr1_15 := hr1_15.mono PieceR.mono hle12
    replace hr1_18 := hr1_18.mono PieceR.mono hle12
    replace hr1_21 := hr1_21.mono PieceR.mono hle12
    replace hr1_24 := hr1_24.mono PieceR.mono hle12
    replace hr1_27 := hr1_27.mono PieceR.mono hle12
    replace hr1_30 := hr1_30.mono PieceR.mono hle12
    replace hr1_33 := hr1_33.mono PieceR.mono hle12
    replace hr1_36 := hr1_36.mono PieceR.mono hle12
    replace ha11_0 := ha11_0.mono PieceR.mono hle12
    have lha12_0 := ha12_0.le
    refine .p .no rfl (.fa rfl f_97_2) rfl rfl rfl <| .p .no rfl (.ixa (j := 0) rfl rfl ae_95 (by decide)) rfl rfl rfl <| .p .no rfl (.ixa (j := 1) rfl rfl ae_94 (by decide)) rfl rfl rfl <| .st (cs' := [_, _, _, _, _, _, _, _, _, _, _, _]) .no rfl rfl rfl rfl ha12_0.any ha12_0.cells s_93 rfl rfl (.tl (.tl (.tl (.tl .hd)))) rfl (allOne_cons ha12_0.one rfl) (.all rfl) <| .nil <| bq_n <| sq_n <| .region rfl <| .p .no rfl (.addL (c := 2) rfl rfl rfl (by decide)) <| .m rfl rfl <| .nil <| sq_n <| .unroll <| .seq <| .region rfl <| .b rfl rfl rfl rfl <| .nil <| sq_n <| .seq <| .condT rfl (by decide) <| .skip <| sq_n <| .seq <| .block <| .seq <| .region rfl <| .m rfl rfl <| .p .no rfl (.ixv (j := 2) rfl rfl ar_94 s_93 (by decide) (partV_s a_93 rfl)) <| .z rfl rfl <| .z rfl rfl <| .nil <| sq_n <| .draw (tb := [r1 0 0, r1 0 0, r1 0 0, r1 4 0, r1 0 0, r1 17 0, r1 63 1, r1 127 1]) rfl (by kernel_rfl) (by kernel_rfl) ?_
    refine .m rfl rfl <| .m rfl rfl <| .m rfl rfl ?_
    obtain ⟨q13, hq13, hF⟩ := bS hF
    refine .call .no rfl rfl rfl rfl rfl (F_slices_Clone_api_Piece_api_Piece_ok d1_13 _ _ hr1_15 _ hq13) ?_
    rintro g13 ml13 r13 hle13 ⟨cs13_0, w13_0, rfl, rfl, ha13_0⟩
    replace hpq0 := hpq0.mono PutR.mono hle13
    replace hlq0 := fun k hk => (hlq0 k hk).mono PieceR.mono hle13
    replace ha3_0 := ha3_0.mono PutR.mono hle13
    replace ha1_6 := ha1_6.mono PutR.mono hle13
    replace hr1_9 := hr1_9.mono PieceR.mono hle13
    replace hr1_12 := hr1_12.mono PieceR.mono hle13
    replace hr1_15 := hr1_15.mono PieceR.mono hle13
    replace hr1_18 := hr1_18.mono PieceR.mono hle13
    replace hr1_21 := hr1_21.mono PieceR.mono hle13
    replace hr1_24 := hr1_24.mono PieceR.mono hle13
    replace hr1_27 := hr1_27.mono PieceR.mono hle13
    replace hr1_30 := hr1_30.mono PieceR.mono hle13
    replace hr1_33 := hr1_33.mono PieceR.mono hle13
    replace hr1_36 := hr1_36.mono PieceR.mono hle13
    replace ha11_0 := ha11_0.mono PieceR.mono hle13
    replace ha12_0 := ha12_0.mono PieceR.mono hle13
    have lha13_0 := ha13_0.le
    refine .p .no rfl (.fa rfl f_97_2) rfl rfl rfl <| .p .no rfl (.ixa (j := 0) rfl rfl ae_95 (by decide)) rfl rfl rfl <| .p .no rfl (.ixa (j := 2) rfl rfl ae_94 (by decide)) rfl rfl rfl <| .st (cs' := [_, _, _, _, _, _, _, _, _, _, _, _]) .no rfl rfl rfl rfl ha13_0.any ha13_0.cells s_93 rfl rfl (.tl (.tl (.tl (.tl (.tl .hd))))) rfl (allOne_cons ha13_0.one rfl) (.all rfl) <| .nil <| bq_n <| sq_n <| .region rfl <| .p .no rfl (.addL (c := 3) rfl rfl rfl (by decide)) <| .m rfl rfl <| .nil <| sq_n <| .unroll <| .seq <| .region rfl <| .b rfl rfl rfl rfl <| .nil <| sq_n <| .seq <| .condT rfl (by decide) <| .skip <| sq_n <| .seq <| .block <| .seq <| .region rfl <| .m rfl rfl <| .p .no rfl (.ixv (j := 3) rfl rfl ar_94 s_93 (by decide) (partV_s a_93 rfl)) <| .z rfl rfl <| .z rfl rfl <| .nil <| sq_n <| .draw (tb := [r1 0 0, r1 0 0, r1 0 0, r1 4 0, r1 0 0, r1 17 0, r1 63 1, r1 127 1]) rfl (by kernel_rfl) (by kernel_rfl) ?_
    refine .m rfl rfl <| .m rfl rfl <| .m rfl rfl ?_
    obtain ⟨q14, hq14, hF⟩ := bS hF
    refine .call .no rfl rfl rfl rfl rfl (F_slices_Clone_api_Piece_api_Piece_ok d1_16 _ _ hr1_18 _ hq14) ?_
    rintro g14 ml14 r14 hle14 ⟨cs14_0, w14_0, rfl, rfl, ha14_0⟩
    replace hpq0 := hpq0.mono PutR.mono hle14
    replace hlq0 := fun k hk => (hlq0 k hk).mono PieceR.mono hle14
    replace ha3_0 := ha3_0.mono PutR.mono hle14
    replace ha1_6 := ha1_6.mono PutR.mono hle14
    replace hr1_9 := hr1_9.mono PieceR.mono hle14
    replace hr1_12 := hr1_12.mono PieceR.mono hle14
    replace hr1_15 := hr1_15.mono PieceR.mono hle14
    replace hr1_18 := hr1_18.mono PieceR.mono hle14
    replace hr1_21 := hr1_21.mono PieceR.mono hle14
    replace hr1_24 := hr1_24.mono PieceR.mono hle14
    replace hr1_27 := hr1_27.mono PieceR.mono hle14
    replace hr1_30 := hr1_30.mono PieceR.mono hle14
    replace hr1_33 := hr1_33.mono PieceR.mono hle14
    replace hr1_36 := hr1_36.mono PieceR.mono hle14
    replace ha11_0 := ha11_0.mono PieceR.mono hle14
    replace ha12_0 := ha12_0.mono PieceR.mono hle14
    replace ha13_0 := ha13_0.mono PieceR.mono hle14
    have lha14_0 := ha14_0.le
    refine .p .no rfl (.fa rfl f_97_2) rfl rfl rfl <| .p .no rfl (.ixa (j := 0) rfl rfl ae_95 (by decide)) rfl rfl rfl <| .p .no rfl (.ixa (j := 3) rfl rfl ae_94 (by decide)) rfl rfl rfl <| .st (cs' := [_, _, _, _, _, _, _, _, _, _, _, _]) .no rfl rfl rfl rfl ha14_0.any ha14_0.cells s_93 rfl rfl (.tl (.tl (.tl (.tl (.tl (.tl .hd)))))) rfl (allOne_cons ha14_0.one rfl) (.all rfl) <| .nil <| bq_n <| sq_n <| .region rfl <| .p .no rfl (.addL (c := 4) rfl rfl rfl (by decide)) <| .m rfl rfl <| .nil <| sq_n <| .unroll <| .seq <| .region rfl <| .b rfl rfl rfl rfl <| .nil <| sq_n <| .seq <| .condT rfl (by decide) <| .skip <| sq_n <| .seq <| .block <| .seq <| .region rfl <| .m rfl rfl <| .p .no rfl (.ixv (j := 4) rfl rfl ar_94 s_93 (by decide) (partV_s a_93 rfl)) <| .z rfl rfl <| .z rfl rfl <| .nil <| sq_n <| .draw (tb := [r1 0 0, r1 0 0, r1 0 0, r1 4 0, r1 0 0, r1 17 0, r1 63 1, r1 127 1]) rfl (by kernel_rfl) (by kernel_rfl) ?_
    refine .m rfl rfl <| .m rfl rfl <| .m rfl rfl ?_
    obtain ⟨q15, hq15, hF⟩ := bS hF
    refine .call .no rfl rfl rfl rfl rfl (F_slices_Clone_api_Piece_api_Piece_ok d1_19 _ _ hr1_21 _ hq15) ?_
    rintro g15 ml15 r15 hle15 ⟨cs15_0, w15_0, rfl, rfl, ha15_0⟩
    replace hpq0 := hpq0.mono PutR.mono hle15
    replace hlq0 := fun k hk => (hlq0 k hk).mono PieceR.mono hle15
    replace ha3_0 := ha3_0.mono PutR.mono hle15
    replace ha1_6 := ha1_6.mono PutR.mono hle15
    replace hr1_9 := hr1_9.mono PieceR.mono hle15
    replace hr1_12 := hr1_12.mono PieceR.mono hle15
    replace hr1_15 := hr1_15.mono PieceR.mono hle15
    replace hr1_18 := hr1_18.mono PieceR.mono hle15
    replace hr1_21 := hr1_21.mono PieceR.mono hle15
    replace hr1_24 := hr1_24.mono PieceR.mono hle15
    replace hr1_27 := hr1_27.mono PieceR.mono hle15
    replace hr1_30 := hr1_30.mono PieceR.mono hle15
    replace hr1_33 := hr1_33.mono PieceR.mono hle15
    replace hr1_36 := hr1_36.mono PieceR.mono hle15
    replace ha11_0 := ha11_0.mono PieceR.mono hle15
    replace ha12_0 := ha12_0.mono PieceR.mono hle15
    replace ha13_0 := ha13_0.mono PieceR.mono hle15
    replace ha14_0 := ha14_0.mono PieceR.mono hle15
    have lha15_0 := ha15_0.le
    refine .p .no rfl (.fa rfl f_97_2) rfl rfl rfl <| .p .no rfl (.ixa (j := 0) rfl rfl ae_95 (by decide)) rfl rfl rfl <| .p .no rfl (.ixa (j := 4) rfl rfl ae_94 (by decide)) rfl rfl rfl <| .st (cs' := [_, _, _, _, _, _, _, _, _, _, _, _]) .no rfl rfl rfl rfl ha15_0.any ha15_0.cells s_93 rfl rfl (.tl (.tl (.tl (.tl (.tl (.tl (.tl .hd))))))) rfl (allOne_cons ha15_0.one rfl) (.all rfl) <| .nil <| bq_n <| sq_n <| .region rfl <| .p .no rfl (.addL (c := 5) rfl rfl rfl (by decide)) <| .m rfl rfl <| .nil <| sq_n <| .unroll <| .seq <| .region rfl <| .b rfl rfl rfl rfl <| .nil <| sq_n <| .seq <| .condF rfl (by decide) <| .exit <| sq_e <| sq_e <| bq_x rfl <| bq_n <| sq_n <| .region rfl <| .p .no rfl (.addL (c := 1) rfl rfl rfl (by decide)) <| .m rfl rfl <| .nil <| sq_n <| .unroll <| .seq <| .region rfl <| .b rfl rfl rfl rfl <| .nil <| sq_n <| .seq <| .condT rfl (by decide) <| .skip <| sq_n <| .seq ?_
    refine .block <| .seq <| .region rfl <| .m rfl rfl <| .z rfl rfl <| .nil <| sq_n <| .seq <| .region rfl <| .m rfl rfl <| .p .no rfl (.fa rfl f_97_2) <| .p .no rfl (.ixa (j := 1) rfl rfl ae_95 (by decide)) <| .ld .no rfl (.a (vs := [_, _, _, _, _]) rfl (.tl (.tl (.tl (.tl (.tl (.tl (.tl .hd))))))) a_94 s_94 rfl rfl) <| .m rfl rfl <| .nil <| sq_n <| .block <| .unroll <| .seq <| .region rfl <| .b rfl rfl rfl rfl <| .nil <| sq_n <| .seq <| .condT rfl (by decide) <| .skip <| sq_n <| .seq <| .block <| .seq <| .region rfl <| .m rfl rfl <| .p .no rfl (.ixv (j := 0) rfl rfl ar_94 s_93 (by decide) (partV_s a_93 rfl)) <| .z rfl rfl ?_
    refine .z rfl rfl <| .nil <| sq_n <| .draw (tb := [r1 0 0, r1 0 0, r1 0 0, r1 4 0, r1 0 0, r1 17 0, r1 63 1, r1 127 1]) rfl (by kernel_rfl) (by kernel_rfl) ?_
    refine .m rfl rfl <| .m rfl rfl <| .m rfl rfl ?_
    obtain ⟨q16, hq16, hF⟩ := bS hF
    refine .call .no rfl rfl rfl rfl rfl (F_slices_Clone_api_Piece_api_Piece_ok d1_22 _ _ hr1_24 _ hq16) ?_
    rintro g16 ml16 r16 hle16 ⟨cs16_0, w16_0, rfl, rfl, ha16_0⟩
    replace hpq0 := hpq0.mono PutR.mono hle16
    replace hlq0 := fun k hk => (hlq0 k hk).mono PieceR.mono hle16
    replace ha3_0 := ha3_0.mono PutR.mono hle16
    replace ha1_6 := ha1_6.mono PutR.mono hle16
    replace hr1_9 := hr1_9.mono PieceR.mono hle16
    replace hr1_12 := hr1_12.mono PieceR.mono hle16
    replace hr1_15 := hr1_15.mono PieceR.mono hle16
    replace hr1_18 := hr1_18.mono PieceR.mono hle16
    replace hr1_21 := hr1_21.mono PieceR.mono hle16
    replace hr1_24 := hr1_24.mono PieceR.mono hle16
    replace hr1_27 := hr1_27.mono PieceR.mono hle16
    replace hr1_30 := hr1_30.mono PieceR.mono hle16
    replace hr1_33 := hr1_33.mono PieceR.mono hle16
    replace hr1_36 := hr1_36.mono PieceR.mono hle16
    replace ha11_0 := ha11_0.mono PieceR.mono hle16
    replace ha12_0 := ha12_0.mono PieceR.mono hle16
    replace ha13_0 := ha13_0.mono PieceR.mono hle16
    replace ha14_0 := ha14_0.mono PieceR.mono hle16
    replace ha15_0 := ha15_0.mono PieceR.mono hle16
    have lha16_0 := ha16_0.le
    refine .p .no rfl (.fa rfl f_97_2) rfl rfl rfl <| .p .no rfl (.ixa (j := 1) rfl rfl ae_95 (by decide)) rfl rfl rfl <| .p .no rfl (.ixa (j := 0) rfl rfl ae_94 (by decide)) rfl rfl rfl <| .st (cs' := [_, _, _, _, _, _, _, _, _, _, _, _]) .no rfl rfl rfl rfl ha16_0.any ha16_0.cells s_93 rfl rfl (.tl (.tl (.tl (.tl (.tl (.tl (.tl (.tl .hd)))))))) rfl (allOne_cons ha16_0.one rfl) (.all rfl) <| .nil <| bq_n <| sq_n <| .region rfl <| .p .no rfl (.addL (c := 1) rfl rfl rfl (by decide)) <| .m rfl rfl <| .nil <| sq_n <| .unroll <| .seq <| .region rfl <| .b rfl rfl rfl rfl <| .nil <| sq_n <| .seq <| .condT rfl (by decide) <| .skip <| sq_n <| .seq <| .block <| .seq <| .region rfl <| .m rfl rfl <| .p .no rfl (.ixv (j := 1) rfl rfl ar_94 s_93 (by decide) (partV_s a_93 rfl)) <| .z rfl rfl <| .z rfl rfl <| .nil <| sq_n <| .draw (tb := [r1 0 0, r1 0 0, r1 0 0, r1 4 0, r1 0 0, r1 17 0, r1 63 1, r1 127 1]) rfl (by kernel_rfl) (by kernel_rfl) ?_
    refine .m rfl rfl <| .m rfl rfl <| .m rfl rfl ?_
    obtain ⟨q17, hq17, hF⟩ := bS hF
    refine .call .no rfl rfl rfl rfl rfl (F_slices_Clone_api_Piece_api_Piece_ok d1_25 _ _ hr1_27 _ hq17) ?_
    rintro g17 ml17 r17 hle17 ⟨cs17_0, w17_0, rfl, rfl, ha17_0⟩
    replace hpq0 := hpq0.mono PutR.mono hle17
    replace hlq0 := fun k hk => (hlq0 k hk).mono PieceR.mono hle17
    replace ha3_0 := ha3_0.mono PutR.mono hle17
    replace ha1_6 := ha1_6.mono PutR.mono hle17
    replace hr1_9 := hr1_9.mono PieceR.mono hle17
    replace hr1_12 := hr1_12.mono PieceR.mono hle17
    replace hr1_15 := hr1_15.mono PieceR.mono hle17
    replace hr1_18 := hr1_18.mono PieceR.mono hle17
    replace hr1_21 := hr1_21.mono PieceR.mono hle17
    replace hr1_24 := hr1_24.mono PieceR.mono hle17
    replace hr1_27 := hr1_27.mono PieceR.mono hle17
    replace hr1_30 := hr1_30.mono PieceR.mono hle17
    replace hr1_33 := hr1_33.mono PieceR.mono hle17
    replace hr1_36 := hr1_36.mono PieceR.mono hle17
    replace ha11_0 := ha11_0.mono PieceR.mono hle17
    replace ha12_0 := ha12_0.mono PieceR.mono hle17
    replace ha13_0 := ha13_0.mono PieceR.mono hle17
    replace ha14_0 := ha14_0.mono PieceR.mono hle17
    replace ha15_0 := ha15_0.mono PieceR.mono hle17
    replace ha16_0 := ha16_0.mono PieceR.mono hle17
    have lha17_0 := ha17_0.le
    refine .p .no rfl (.fa rfl f_97_2) rfl rfl rfl <| .p .no rfl (.ixa (j := 1) rfl rfl ae_95 (by decide)) rfl rfl rfl <| .p .no rfl (.ixa (j := 1) rfl rfl ae_94 (by decide)) rfl rfl rfl <| .st (cs' := [_, _, _, _, _, _, _, _, _, _, _, _]) .no rfl rfl rfl rfl ha17_0.any ha17_0.cells s_93 rfl rfl (.tl (.tl (.tl (.tl (.tl (.tl (.tl (.tl (.tl .hd))))))))) rfl (allOne_cons ha17_0.one rfl) (.all rfl) <| .nil <| bq_n <| sq_n <| .region rfl <| .p .no rfl (.addL (c := 2) rfl rfl rfl (by decide)) <| .m rfl rfl <| .nil <| sq_n <| .unroll <| .seq <| .region rfl <| .b rfl rfl rfl rfl <| .nil <| sq_n <| .seq <| .condT rfl (by decide) <| .skip <| sq_n <| .seq <| .block <| .seq <| .region rfl <| .m rfl rfl <| .p .no rfl (.ixv (j := 2) rfl rfl ar_94 s_93 (by decide) (partV_s a_93 rfl)) <| .z rfl rfl <| .z rfl rfl <| .nil <| sq_n <| .draw (tb := [r1 0 0, r1 0 0, r1 0 0, r1 4 0, r1 0 0, r1 17 0, r1 63 1, r1 127 1]) rfl (by kernel_rfl) (by kernel_rfl) ?_
    refine .m rfl rfl <| .m rfl rfl <| .m rfl rfl ?_
    obtain ⟨q18, hq18, hF⟩ := bS hF
    refine .call .no rfl rfl rfl rfl rfl (F_slices_Clone_api_Piece_api_Piece_ok d1_28 _ _ hr1_30 _ hq18) ?_
    rintro g18 ml18 r18 hle18 ⟨cs18_0, w18_0, rfl, rfl, ha18_0⟩
    replace hpq0 := hpq0.mono PutR.mono hle18
    replace hlq0 := fun k hk => (hlq0 k hk).mono PieceR.mono hle18
    replace ha3_0 := ha3_0.mono PutR.mono hle18
    replace ha1_6 := ha1_6.mono PutR.mono hle18
    replace hr1_9 := hr1_9.mono PieceR.mono hle18
    replace hr1_12 := hr1_12.mono PieceR.mono hle18
    replace hr1_15 := hr1_15.mono PieceR.mono hle18
    replace hr1_18 := hr1_18.mono PieceR.mono hle18
    replace hr1_21 := hr1_21.mono PieceR.mono hle18
    replace hr1_24 := hr1_24.mono PieceR.mono hle18
    replace hr1_27 := hr1_27.mono PieceR.mono hle18
    replace hr1_30 := hr1_30.mono PieceR.mono hle18
    replace hr1_33 := hr1_33.mono PieceR.mono hle18
    replace hr1_36 := hr1_36.mono PieceR.mono hle18
    replace ha11_0 := ha11_0.mono PieceR.mono hle18
    replace ha12_0 := ha12_0.mono PieceR.mono hle18
    replace ha13_0 := ha13_0.mono PieceR.mono hle18
    replace ha14_0 := ha14_0.mono PieceR.mono hle18
    replace ha15_0 := ha15_0.mono PieceR.mono hle18
    replace ha16_0 := ha16_0.mono PieceR.mono hle18
    replace ha17_0 := ha17_0.mono PieceR.mono hle18
    have lha18_0 := ha18_0.le
    refine .p .no rfl (.fa rfl f_97_2) rfl rfl rfl <| .p .no rfl (.ixa (j := 1) rfl rfl ae_95 (by decide)) rfl rfl rfl <| .p .no rfl (.ixa (j := 2) rfl rfl ae_94 (by decide)) rfl rfl rfl <| .st (cs' := [_, _, _, _, _, _, _, _, _, _, _, _]) .no rfl rfl rfl rfl ha18_0.any ha18_0.cells s_93 rfl rfl (.tl (.tl (.tl (.tl (.tl (.tl (.tl (.tl (.tl (.tl .hd)))))))))) rfl (allOne_cons ha18_0.one rfl) (.all rfl) <| .nil <| bq_n <| sq_n <| .region rfl <| .p .no rfl (.addL (c := 3) rfl rfl rfl (by decide)) <| .m rfl rfl <| .nil <| sq_n <| .unroll <| .seq <| .region rfl <| .b rfl rfl rfl rfl <| .nil <| sq_n <| .seq <| .condT rfl (by decide) <| .skip <| sq_n <| .seq <| .block <| .seq <| .region rfl <| .m rfl rfl <| .p .no rfl (.ixv (j := 3) rfl rfl ar_94 s_93 (by decide) (partV_s a_93 rfl)) <| .z rfl rfl <| .z rfl rfl <| .nil <| sq_n <| .draw (tb := [r1 0 0, r1 0 0, r1 0 0, r1 4 0, r1 0 0, r1 17 0, r1 63 1, r1 127 1]) rfl (by kernel_rfl) (by kernel_rfl) ?_
    refine .m rfl rfl <| .m rfl rfl <| .m rfl rfl ?_
    obtain ⟨q19, hq19, hF⟩ := bS hF
    refine .call .no rfl rfl rfl rfl rfl (F_slices_Clone_api_Piece_api_Piece_ok d1_31 _ _ hr1_33 _ hq19) ?_
    rintro g19 ml19 r19 hle19 ⟨cs19_0, w19_0, rfl, rfl, ha19_0⟩
    replace hpq0 := hpq0.mono PutR.mono hle19
    replace hlq0 := fun k hk => (hlq0 k hk).mono PieceR.mono hle19
    replace ha3_0 := ha3_0.mono PutR.mono hle19
    replace ha1_6 := ha1_6.mono PutR.mono hle19
    replace hr1_9 := hr1_9.mono PieceR.mono hle19
    replace hr1_12 := hr1_12.mono PieceR.mono hle19
    replace hr1_15 := hr1_15.mono PieceR.mono hle19
    replace hr1_18 := hr1_18.mono PieceR.mono hle19
    replace hr1_21 := hr1_21.mono PieceR.mono hle19
    replace hr1_24 := hr1_24.mono PieceR.mono hle19
    replace hr1_27 := hr1_27.mono PieceR.mono hle19
    replace hr1_30 := hr1_30.mono PieceR.mono hle19
    replace hr1_33 := hr1_33.mono PieceR.mono hle19
    replace hr1_36 := hr1_36.mono PieceR.mono hle19
    replace ha11_0 := ha11_0.mono PieceR.mono hle19
    replace ha12_0 := ha12_0.mono PieceR.mono hle19
    replace ha13_0 := ha13_0.mono PieceR.mono hle19
    replace ha14_0 := ha14_0.mono PieceR.mono hle19
    replace ha15_0 := ha15_0.mono PieceR.mono hle19
    replace ha16_0 := ha16_0.mono PieceR.mono hle19
    replace ha17_0 := ha17_0.mono PieceR.mono hle19
    replace ha18_0 := ha18_0.mono PieceR.mono hle19
    have lha19_0 := ha19_0.le
    refine .p .no rfl (.fa rfl f_97_2) rfl rfl rfl <| .p .no rfl (.ixa (j := 1) rfl rfl ae_95 (by decide)) rfl rfl rfl <| .p .no rfl (.ixa (j := 3) rfl rfl ae_94 (by decide)) rfl rfl rfl <| .st (cs' := [_, _, _, _, _, _, _, _, _, _, _, _]) .no rfl rfl rfl rfl ha19_0.any ha19_0.cells s_93 rfl rfl (.tl (.tl (.tl (.tl (.tl (.tl (.tl (.tl (.tl (.tl (.tl .hd))))))))))) rfl (allOne_cons ha19_0.one rfl) (.all rfl) <| .nil <| bq_n <| sq_n <| .region rfl <| .p .no rfl (.addL (c := 4) rfl rfl rfl (by decide)) <| .m rfl rfl <| .nil <| sq_n <| .unroll <| .seq <| .region rfl <| .b rfl rfl rfl rfl <| .nil <| sq_n <| .seq <| .condT rfl (by decide) <| .skip <| sq_n <| .seq <| .block <| .seq <| .region rfl <| .m rfl rfl <| .p .no rfl (.ixv (j := 4) rfl rfl ar_94 s_93 (by decide) (partV_s a_93 rfl)) <| .z rfl rfl <| .z rfl rfl <| .nil <| sq_n <| .draw (tb := [r1 0 0, r1 0 0, r1 0 0, r1 4 0, r1 0 0, r1 17 0, r1 63 1, r1 127 1]) rfl (by kernel_rfl) (by kernel_rfl) ?_
    refine .m rfl rfl <| .m rfl rfl <| .m rfl rfl ?_
    obtain ⟨q20, hq20, hF⟩ := bS hF
    refine .call .no rfl rfl rfl rfl rfl (F_slices_Clone_api_Piece_api_Piece_ok d1_34 _ _ hr1_36 _ hq20) ?_
    rintro g20 ml20 r20 hle20 ⟨cs20_0, w20_0, rfl, rfl, ha20_0⟩
    replace hpq0 := hpq0.mono PutR.mono hle20
    replace hlq0 := fun k hk => (hlq0 k hk).mono PieceR.mono hle20
    replace ha3_0 := ha3_0.mono PutR.mono hle20
    replace ha1_6 := ha1_6.mono PutR.mono hle20
    replace hr1_9 := hr1_9.mono PieceR.mono hle20
    replace hr1_12 := hr1_12.mono PieceR.mono hle20
    replace hr1_15 := hr1_15.mono PieceR.mono hle20
    replace hr1_18 := hr1_18.mono PieceR.mono hle20
    replace hr1_21 := hr1_21.mono PieceR.mono hle20
    replace hr1_24 := hr1_24.mono PieceR.mono hle20
    replace hr1_27 := hr1_27.mono PieceR.mono hle20
    replace hr1_30 := hr1_30.mono PieceR.mono hle20
    replace hr1_33 := hr1_33.mono PieceR.mono hle20
    replace hr1_36 := hr1_36.mono PieceR.mono hle20
    replace ha11_0 := ha11_0.mono PieceR.mono hle20
    replace ha12_0 := ha12_0.mono PieceR.mono hle20
    replace ha13_0 := ha13_0.mono PieceR.mono hle20
    replace ha14_0 := ha14_0.mono PieceR.mono hle20
    replace ha15_0 := ha15_0.mono PieceR.mono hle20
    replace ha16_0 := ha16_0.mono PieceR.mono hle20
    replace ha17_0 := ha17_0.mono PieceR.mono hle20
    replace ha18_0 := ha18_0.mono PieceR.mono hle20
    replace ha19_0 := ha19_0.mono PieceR.mono hle20
    have lha20_0 := ha20_0.le
    refine .p .no rfl (.fa rfl f_97_2) rfl rfl rfl <| .p .no rfl (.ixa (j := 1) rfl rfl ae_95 (by decide)) rfl rfl rfl <| .p .no rfl (.ixa (j := 4) rfl rfl ae_94 (by decide)) rfl rfl rfl <| .st (cs' := [_, _, _, _, _, _, _, _, _, _, _, _]) .no rfl rfl rfl rfl ha20_0.any ha20_0.cells s_93 rfl rfl (.tl (.tl (.tl (.tl (.tl (.tl (.tl (.tl (.tl (.tl (.tl (.tl .hd)))))))))))) rfl (allOne_cons ha20_0.one rfl) (.all rfl) <| .nil <| bq_n <| sq_n <| .region rfl <| .p .no rfl (.addL (c := 5) rfl rfl rfl (by decide)) <| .m rfl rfl <| .nil <| sq_n <| .unroll <| .seq <| .region rfl <| .b rfl rfl rfl rfl <| .nil <| sq_n <| .seq <| .condF rfl (by decide) <| .exit <| sq_e <| sq_e <| bq_x rfl <| bq_n <| sq_n <| .region rfl <| .p .no rfl (.addL (c := 2) rfl rfl rfl (by decide)) <| .m rfl rfl <| .nil <| sq_n <| .unroll <| .seq <| .region rfl <| .b rfl rfl rfl rfl <| .nil <| sq_n <| .seq <| .condF rfl (by decide) <| .exit <| sq_e <| sq_e <| bq_x rfl <| sq_n <| .seq ?_
    refine .region rfl <| .ld .no rfl (.a (vs := [_, _, _, _, _, _, _, _, _, _, _, _]) rfl (.tl (.tl (.tl (.tl (.tl (.tl (.tl (.tl (.tl (.tl (.tl (.tl .hd)))))))))))) a_97 s_97 rfl rfl) <| .st (cs' := [_, _, _, _, _, _, _, _, _, _, _, _]) .no rfl rfl rfl rfl s_97 rfl rfl (.tl (.tl (.tl (.tl (.tl (.tl (.tl (.tl (.tl (.tl (.tl .hd))))))))))) rfl (allOne_cons rfl (allOne_cons ha1_6.one (allOne_cons ha11_0.one (allOne_cons ha12_0.one (allOne_cons ha13_0.one (allOne_cons ha14_0.one (allOne_cons ha15_0.one (allOne_cons ha16_0.one (allOne_cons ha17_0.one (allOne_cons ha18_0.one (allOne_cons ha19_0.one (allOne_cons ha20_0.one rfl)))))))))))) <| .nil <| sq_n <| .see (seeFreeze PutR.mono (.tl (.tl (.tl (.tl (.tl (.tl (.tl (.tl (.tl (.tl .hd)))))))))) (by decide) ha1_6) ?_
    rintro gz21 ⟨hle21, hz21⟩
    replace hpq0 := hpq0.mono PutR.mono hle21
    replace hlq0 := fun k hk => (hlq0 k hk).mono PieceR.mono hle21
    replace ha3_0 := ha3_0.mono PutR.mono hle21
    replace ha1_6 := ha1_6.mono PutR.mono hle21
    replace hr1_9 := hr1_9.mono PieceR.mono hle21
    replace hr1_12 := hr1_12.mono PieceR.mono hle21
    replace hr1_15 := hr1_15.mono PieceR.mono hle21
    replace hr1_18 := hr1_18.mono PieceR.mono hle21
    replace hr1_21 := hr1_21.mono PieceR.mono hle21
    replace hr1_24 := hr1_24.mono PieceR.mono hle21
    replace hr1_27 := hr1_27.mono PieceR.mono hle21
    replace hr1_30 := hr1_30.mono PieceR.mono hle21
    replace hr1_33 := hr1_33.mono PieceR.mono hle21
    replace hr1_36 := hr1_36.mono PieceR.mono hle21
    replace ha11_0 := ha11_0.mono PieceR.mono hle21
    replace ha12_0 := ha12_0.mono PieceR.mono hle21
    replace ha13_0 := ha13_0.mono PieceR.mono hle21
    replace ha14_0 := ha14_0.mono PieceR.mono hle21
    replace ha15_0 := ha15_0.mono PieceR.mono hle21
    replace ha16_0 := ha16_0.mono PieceR.mono hle21
    replace ha17_0 := ha17_0.mono PieceR.mono hle21
    replace ha18_0 := ha18_0.mono PieceR.mono hle21
    replace ha19_0 := ha19_0.mono PieceR.mono hle21
    replace ha20_0 := ha20_0.mono PieceR.mono hle21
    refine .see (seeFreeze PieceR.mono (.tl (.tl (.tl (.tl (.tl (.tl (.tl (.tl (.tl .hd))))))))) (by decide) ha11_0) ?_
    rintro gz22 ⟨hle22, hz22⟩
    replace hpq0 := hpq0.mono PutR.mono hle22
    replace hlq0 := fun k hk => (hlq0 k hk).mono PieceR.mono hle22
    replace ha3_0 := ha3_0.mono PutR.mono hle22
    replace ha1_6 := ha1_6.mono PutR.mono hle22
    replace hr1_9 := hr1_9.mono PieceR.mono hle22
    replace hr1_12 := hr1_12.mono PieceR.mono hle22
    replace hr1_15 := hr1_15.mono PieceR.mono hle22
    replace hr1_18 := hr1_18.mono PieceR.mono hle22
    replace hr1_21 := hr1_21.mono PieceR.mono hle22
    replace hr1_24 := hr1_24.mono PieceR.mono hle22
    replace hr1_27 := hr1_27.mono PieceR.mono hle22
    replace hr1_30 := hr1_30.mono PieceR.mono hle22
    replace hr1_33 := hr1_33.mono PieceR.mono hle22
    replace hr1_36 := hr1_36.mono PieceR.mono hle22
    replace ha11_0 := ha11_0.mono PieceR.mono hle22
    replace ha12_0 := ha12_0.mono PieceR.mono hle22
    replace ha13_0 := ha13_0.mono PieceR.mono hle22
    replace ha14_0 := ha14_0.mono PieceR.mono hle22
    replace ha15_0 := ha15_0.mono PieceR.mono hle22
    replace ha16_0 := ha16_0.mono PieceR.mono hle22
    replace ha17_0 := ha17_0.mono PieceR.mono hle22
    replace ha18_0 := ha18_0.mono PieceR.mono hle22
    replace ha19_0 := ha19_0.mono PieceR.mono hle22
    replace ha20_0 := ha20_0.mono PieceR.mono hle22
    replace hz21 := hz21.mono PutR.mono hle22
    refine .see (seeFreeze PieceR.mono (.tl (.tl (.tl (.tl (.tl (.tl (.tl (.tl .hd)))))))) (by decide) ha12_0) ?_
    rintro gz23 ⟨hle23, hz23⟩
    replace hpq0 := hpq0.mono PutR.mono hle23
    replace hlq0 := fun k hk => (hlq0 k hk).mono PieceR.mono hle23
    replace ha3_0 := ha3_0.mono PutR.mono hle23
    replace ha1_6 := ha1_6.mono PutR.mono hle23
    replace hr1_9 := hr1_9.mono PieceR.mono hle23
    replace hr1_12 := hr1_12.mono PieceR.mono hle23
    replace hr1_15 := hr1_15.mono PieceR.mono hle23
    replace hr1_18 := hr1_18.mono PieceR.mono hle23
    replace hr1_21 := hr1_21.mono PieceR.mono hle23
    replace hr1_24 := hr1_24.mono PieceR.mono hle23
    replace hr1_27 := hr1_27.mono PieceR.mono hle23
    replace hr1_30 := hr1_30.mono PieceR.mono hle23
    replace hr1_33 := hr1_33.mono PieceR.mono hle23
    replace hr1_36 := hr1_36.mono PieceR.mono hle23
    replace ha11_0 := ha11_0.mono PieceR.mono hle23
    replace ha12_0 := ha12_0.mono PieceR.mono hle23
    replace ha13_0 := ha13_0.mono PieceR.mono hle23
    replace ha14_0 := ha14_0.mono PieceR.mono hle23
    replace ha15_0 := ha15_0.mono PieceR.mono hle23
    replace ha16_0 := ha16_0.mono PieceR.mono hle23
    replace ha17_0 := ha17_0.mono PieceR.mono hle23
    replace ha18_0 := ha18_0.mono PieceR.mono hle23
    replace ha19_0 := ha19_0.mono PieceR.mono hle23
    replace ha20_0 := ha20_0.mono PieceR.mono hle23
    replace hz21 := hz21.mono PutR.mono hle23
    replace hz22 := hz22.mono PieceR.mono hle23
    refine .see (seeFreeze PieceR.mono (.tl (.tl (.tl (.tl (.tl (.tl (.tl .hd))))))) (by decide) ha13_0) ?_
    rintro gz24 ⟨hle24, hz24⟩
    replace hpq0 := hpq0.mono PutR.mono hle24
    replace hlq0 := fun k hk => (hlq0 k hk).mono PieceR.mono hle24
    replace ha3_0 := ha3_0.mono PutR.mono hle24
    replace ha1_6 := ha1_6.mono PutR.mono hle24
    replace hr1_9 := hr1_9.mono PieceR.mono hle24
    replace hr1_12 := hr1_12.mono PieceR.mono hle24
    replace hr1_15 := hr1_15.mono PieceR.mono hle24
    replace hr1_18 := hr1_18.mono PieceR.mono hle24
    replace hr1_21 := hr1_21.mono PieceR.mono hle24
    replace hr1_24 := hr1_24.mono PieceR.mono hle24
    replace hr1_27 := hr1_27.mono PieceR.mono hle24
    replace hr1_30 := hr1_30.mono PieceR.mono hle24
    replace hr1_33 := hr1_33.mono PieceR.mono hle24
    replace hr1_36 := hr1_36.mono PieceR.mono hle24
    replace ha11_0 := ha11_0.mono PieceR.mono hle24
    replace ha12_0 := ha12_0.mono PieceR.mono hle24
    replace ha13_0 := ha13_0.mono PieceR.mono hle24
    replace ha14_0 := ha14_0.mono PieceR.mono hle24
    replace ha15_0 := ha15_0.mono PieceR.mono hle24
    replace ha16_0 := ha16_0.mono PieceR.mono hle24
    replace ha17_0 := ha17_0.mono PieceR.mono hle24
    replace ha18_0 := ha18_0.mono PieceR.mono hle24
    replace ha19_0 := ha19_0.mono PieceR.mono hle24
    replace ha20_0 := ha20_0.mono PieceR.mono hle24
    replace hz21 := hz21.mono PutR.mono hle24
    replace hz22 := hz22.mono PieceR.mono hle24
    replace hz23 := hz23.mono PieceR.mono hle24
    refine .see (seeFreeze PieceR.mono (.tl (.tl (.tl (.tl (.tl (.tl .hd)))))) (by decide) ha14_0) ?_
    rintro gz25 ⟨hle25, hz25⟩
    replace hpq0 := hpq0.mono PutR.mono hle25
    replace hlq0 := fun k hk => (hlq0 k hk).mono PieceR.mono hle25
    replace ha3_0 := ha3_0.mono PutR.mono hle25
    replace ha1_6 := ha1_6.mono PutR.mono hle25
    replace hr1_9 := hr1_9.mono PieceR.mono hle25
    replace hr1_12 := hr1_12.mono PieceR.mono hle25
    replace hr1_15 := hr1_15.mono PieceR.mono hle25
    replace hr1_18 := hr1_18.mono PieceR.mono hle25
    replace hr1_21 := hr1_21.mono PieceR.mono hle25
    replace hr1_24 := hr1_24.mono PieceR.mono hle25
    replace hr1_27 := hr1_27.mono PieceR.mono hle25
    replace hr1_30 := hr1_30.mono PieceR.mono hle25
    replace hr1_33 := hr1_33.mono PieceR.mono hle25
    replace hr1_36 := hr1_36.mono PieceR.mono hle25
    replace ha11_0 := ha11_0.mono PieceR.mono hle25
    replace ha12_0 := ha12_0.mono PieceR.mono hle25
    replace ha13_0 := ha13_0.mono PieceR.mono hle25
    replace ha14_0 := ha14_0.mono PieceR.mono hle25
    replace ha15_0 := ha15_0.mono PieceR.mono hle25
    replace ha16_0 := ha16_0.mono PieceR.mono hle25
    replace ha17_0 := ha17_0.mono PieceR.mono hle25
    replace ha18_0 := ha18_0.mono PieceR.mono hle25
    replace ha19_0 := ha19_0.mono PieceR.mono hle25
    replace ha20_0 := ha20_0.mono PieceR.mono hle25
    replace hz21 := hz21.mono PutR.mono hle25
    replace hz22 := hz22.mono PieceR.mono hle25
    replace hz23 := hz23.mono PieceR.mono hle25
    replace hz24 := hz24.mono PieceR.mono hle25
    refine .see (seeFreeze PieceR.mono (.tl (.tl (.tl (.tl (.tl .hd))))) (by decide) ha15_0) ?_
    rintro gz26 ⟨hle26, hz26⟩
    replace hpq0 := hpq0.mono PutR.mono hle26
    replace hlq0 := fun k hk => (hlq0 k hk).mono PieceR.mono hle26
    replace ha3_0 := ha3_0.mono PutR.mono hle26
    replace ha1_6 := ha1_6.mono PutR.mono hle26
    replace hr1_9 := hr1_9.mono PieceR.mono hle26
    replace hr1_12 := hr1_12.mono PieceR.mono hle26
    replace hr1_15 := hr1_15.mono PieceR.mono hle26
    replace hr1_18 := hr1_18.mono PieceR.mono hle26
    replace hr1_21 := hr1_21.mono PieceR.mono hle26
    replace hr1_24 := hr1_24.mono PieceR.mono hle26
    replace hr1_27 := hr1_27.mono PieceR.mono hle26
    replace hr1_30 := hr1_30.mono PieceR.mono hle26
    replace hr1_33 := hr1_33.mono PieceR.mono hle26
    replace hr1_36 := hr1_36.mono PieceR.mono hle26
    replace ha11_0 := ha11_0.mono PieceR.mono hle26
    replace ha12_0 := ha12_0.mono PieceR.mono hle26
    replace ha13_0 := ha13_0.mono PieceR.mono hle26
    replace ha14_0 := ha14_0.mono PieceR.mono hle26
    replace ha15_0 := ha15_0.mono PieceR.mono hle26
    replace ha16_0 := ha16_0.mono PieceR.mono hle26
    replace ha17_0 := ha17_0.mono PieceR.mono hle26
    replace ha18_0 := ha18_0.mono PieceR.mono hle26
    replace ha19_0 := ha19_0.mono PieceR.mono hle26
    replace ha20_0 := ha20_0.mono PieceR.mono hle26
    replace hz21 := hz21.mono PutR.mono hle26
    replace hz22 := hz22.mono PieceR.mono hle26
    replace hz23 := hz23.mono PieceR.mono hle26
    replace hz24 := hz24.mono PieceR.mono hle26
    replace hz25 := hz25.mono PieceR.mono hle26
    refine .see (seeFreeze PieceR.mono (.tl (.tl (.tl (.tl .hd)))) (by decide) ha16_0) ?_
    rintro gz27 ⟨hle27, hz27⟩
    replace hpq0 := hpq0.mono PutR.mono hle27
    replace hlq0 := fun k hk => (hlq0 k hk).mono PieceR.mono hle27
    replace ha3_0 := ha3_0.mono PutR.mono hle27
    replace ha1_6 := ha1_6.mono PutR.mono hle27
    replace hr1_9 := hr1_9.mono PieceR.mono hle27
    replace hr1_12 := hr1_12.mono PieceR.mono hle27
    replace hr1_15 := hr1_15.mono PieceR.mono hle27
    replace hr1_18 := hr1_18.mono PieceR.mono hle27
    replace hr1_21 := hr1_21.mono PieceR.mono hle27
    replace hr1_24 := hr1_24.mono PieceR.mono hle27
    replace hr1_27 := hr1_27.mono PieceR.mono hle27
    replace hr1_30 := hr1_30.mono PieceR.mono hle27
    replace hr1_33 := hr1_33.mono PieceR.mono hle27
    replace hr1_36 := hr1_36.mono PieceR.mono hle27
    replace ha11_0 := ha11_0.mono PieceR.mono hle27
    replace ha12_0 := ha12_0.mono PieceR.mono hle27
    replace ha13_0 := ha13_0.mono PieceR.mono hle27
    replace ha14_0 := ha14_0.mono PieceR.mono hle27
    replace ha15_0 := ha15_0.mono PieceR.mono hle27
    replace ha16_0 := ha16_0.mono PieceR.mono hle27
    replace ha17_0 := ha17_0.mono PieceR.mono hle27
    replace ha18_0 := ha18_0.mono PieceR.mono hle27
    replace ha19_0 := ha19_0.mono PieceR.mono hle27
    replace ha20_0 := ha20_0.mono PieceR.mono hle27
    replace hz21 := hz21.mono PutR.mono hle27
    replace hz22 := hz22.mono PieceR.mono hle27
    replace hz23 := hz23.mono PieceR.mono hle27
    replace hz24 := hz24.mono PieceR.mono hle27
    replace hz25 := hz25.mono PieceR.mono hle27
    replace hz26 := hz26.mono PieceR.mono hle27
    refine .see (seeFreeze PieceR.mono (.tl (.tl (.tl .hd))) (by decide) ha17_0) ?_
    rintro gz28 ⟨hle28, hz28⟩
    replace hpq0 := hpq0.mono PutR.mono hle28
    replace hlq0 := fun k hk => (hlq0 k hk).mono PieceR.mono hle28
    replace ha3_0 := ha3_0.mono PutR.mono hle28
    replace ha1_6 := ha1_6.mono PutR.mono hle28
    replace hr1_9 := hr1_9.mono PieceR.mono hle28
    replace hr1_12 := hr1_12.mono PieceR.mono hle28
    replace hr1_15 := hr1_15.mono PieceR.mono hle28
    replace hr1_18 := hr1_18.mono PieceR.mono hle28
    replace hr1_21 := hr1_21.mono PieceR.mono hle28
    replace hr1_24 := hr1_24.mono PieceR.mono hle28
    replace hr1_27 := hr1_27.mono PieceR.mono hle28
    replace hr1_30 := hr1_30.mono PieceR.mono hle28
    replace hr1_33 := hr1_33.mono PieceR.mono hle28
    replace hr1_36 := hr1_36.mono PieceR.mono hle28
    replace ha11_0 := ha11_0.mono PieceR.mono hle28
    replace ha12_0 := ha12_0.mono PieceR.mono hle28
    replace ha13_0 := ha13_0.mono PieceR.mono hle28
    replace ha14_0 := ha14_0.mono PieceR.mono hle28
    replace ha15_0 := ha15_0.mono PieceR.mono hle28
    replace ha16_0 := ha16_0.mono PieceR.mono hle28
    replace ha17_0 := ha17_0.mono PieceR.mono hle28
    replace ha18_0 := ha18_0.mono PieceR.mono hle28
    replace ha19_0 := ha19_0.mono PieceR.mono hle28
    replace ha20_0 := ha20_0.mono PieceR.mono hle28
    replace hz21 := hz21.mono PutR.mono hle28
    replace hz22 := hz22.mono PieceR.mono hle28
    replace hz23 := hz23.mono PieceR.mono hle28
    replace hz24 := hz24.mono PieceR.mono hle28
    replace hz25 := hz25.mono PieceR.mono hle28
    replace hz26 := hz26.mono PieceR.mono hle28
    replace hz27 := hz27.mono PieceR.mono hle28
    refine .see (seeFreeze PieceR.mono (.tl (.tl .hd)) (by decide) ha18_0) ?_
    rintro gz29 ⟨hle29, hz29⟩
    replace hpq0 := hpq0.mono PutR.mono hle29
    replace hlq0 := fun k hk => (hlq0 k hk).mono PieceR.mono hle29
    replace ha3_0 := ha3_0.mono PutR.mono hle29
    replace ha1_6 := ha1_6.mono PutR.mono hle29
    replace hr1_9 := hr1_9.mono PieceR.mono hle29
    replace hr1_12 := hr1_12.mono PieceR.mono hle29
    replace hr1_15 := hr1_15.mono PieceR.mono hle29
    replace hr1_18 := hr1_18.mono PieceR.mono hle29
    replace hr1_21 := hr1_21.mono PieceR.mono hle29
    replace hr1_24 := hr1_24.mono PieceR.mono hle29
    replace hr1_27 := hr1_27.mono PieceR.mono hle29
    replace hr1_30 := hr1_30.mono PieceR.mono hle29
    replace hr1_33 := hr1_33.mono PieceR.mono hle29
    replace hr1_36 := hr1_36.mono PieceR.mono hle29
    replace ha11_0 := ha11_0.mono PieceR.mono hle29
    replace ha12_0 := ha12_0.mono PieceR.mono hle29
    replace ha13_0 := ha13_0.mono PieceR.mono hle29
    replace ha14_0 := ha14_0.mono PieceR.mono hle29
    replace ha15_0 := ha15_0.mono PieceR.mono hle29
    replace ha16_0 := ha16_0.mono PieceR.mono hle29
    replace ha17_0 := ha17_0.mono PieceR.mono hle29
    replace ha18_0 := ha18_0.mono PieceR.mono hle29
    replace ha19_0 := ha19_0.mono PieceR.mono hle29
    replace ha20_0 := ha20_0.mono PieceR.mono hle29
    replace hz21 := hz21.mono PutR.mono hle29
    replace hz22 := hz22.mono PieceR.mono hle29
    replace hz23 := hz23.mono PieceR.mono hle29
    replace hz24 := hz24.mono PieceR.mono hle29
    replace hz25 := hz25.mono PieceR.mono hle29
    replace hz26 := hz26.mono PieceR.mono hle29
    replace hz27 := hz27.mono PieceR.mono hle29
    replace hz28 := hz28.mono PieceR.mono hle29
    refine .see (seeFreeze PieceR.mono (.tl .hd) (by decide) ha19_0) ?_
    rintro gz30 ⟨hle30, hz30⟩
    replace hpq0 := hpq0.mono PutR.mono hle30
    replace hlq0 := fun k hk => (hlq0 k hk).mono PieceR.mono hle30
    replace ha3_0 := ha3_0.mono PutR.mono hle30
    replace ha1_6 := ha1_6.mono PutR.mono hle30
    replace hr1_9 := hr1_9.mono PieceR.mono hle30
    replace hr1_12 := hr1_12.mono PieceR.mono hle30
    replace hr1_15 := hr1_15.mono PieceR.mono hle30
    replace hr1_18 := hr1_18.mono PieceR.mono hle30
    replace hr1_21 := hr1_21.mono PieceR.mono hle30
    replace hr1_24 := hr1_24.mono PieceR.mono hle30
    replace hr1_27 := hr1_27.mono PieceR.mono hle30
    replace hr1_30 := hr1_30.mono PieceR.mono hle30
    replace hr1_33 := hr1_33.mono PieceR.mono hle30
    replace hr1_36 := hr1_36.mono PieceR.mono hle30
    replace ha11_0 := ha11_0.mono PieceR.mono hle30
    replace ha12_0 := ha12_0.mono PieceR.mono hle30
    replace ha13_0 := ha13_0.mono PieceR.mono hle30
    replace ha14_0 := ha14_0.mono PieceR.mono hle30
    replace ha15_0 := ha15_0.mono PieceR.mono hle30
    replace ha16_0 := ha16_0.mono PieceR.mono hle30
    replace ha17_0 := ha17_0.mono PieceR.mono hle30
    replace ha18_0 := ha18_0.mono PieceR.mono hle30
    replace ha19_0 := ha19_0.mono PieceR.mono hle30
    replace ha20_0 := ha20_0.mono PieceR.mono hle30
    replace hz21 := hz21.mono PutR.mono hle30
    replace hz22 := hz22.mono PieceR.mono hle30
    replace hz23 := hz23.mono PieceR.mono hle30
    replace hz24 := hz24.mono PieceR.mono hle30
    replace hz25 := hz25.mono PieceR.mono hle30
    replace hz26 := hz26.mono PieceR.mono hle30
    replace hz27 := hz27.mono PieceR.mono hle30
    replace hz28 := hz28.mono PieceR.mono hle30
    replace hz29 := hz29.mono PieceR.mono hle30
    refine .see (seeFreeze PieceR.mono .hd (by decide) ha20_0) ?_
    rintro gz31 ⟨hle31, hz31⟩
    replace hpq0 := hpq0.mono PutR.mono hle31
    replace hlq0 := fun k hk => (hlq0 k hk).mono PieceR.mono hle31
    replace ha3_0 := ha3_0.mono PutR.mono hle31
    replace ha1_6 := ha1_6.mono PutR.mono hle31
    replace hr1_9 := hr1_9.mono PieceR.mono hle31
    replace hr1_12 := hr1_12.mono PieceR.mono hle31
    replace hr1_15 := hr1_15.mono PieceR.mono hle31
    replace hr1_18 := hr1_18.mono PieceR.mono hle31
    replace hr1_21 := hr1_21.mono PieceR.mono hle31
    replace hr1_24 := hr1_24.mono PieceR.mono hle31
    replace hr1_27 := hr1_27.mono PieceR.mono hle31
    replace hr1_30 := hr1_30.mono PieceR.mono hle31
    replace hr1_33 := hr1_33.mono PieceR.mono hle31
    replace hr1_36 := hr1_36.mono PieceR.mono hle31
    replace ha11_0 := ha11_0.mono PieceR.mono hle31
    replace ha12_0 := ha12_0.mono PieceR.mono hle31
    replace ha13_0 := ha13_0.mono PieceR.mono hle31
    replace ha14_0 := ha14_0.mono PieceR.mono hle31
    replace ha15_0 := ha15_0.mono PieceR.mono hle31
    replace ha16_0 := ha16_0.mono PieceR.mono hle31
    replace ha17_0 := ha17_0.mono PieceR.mono hle31
    replace ha18_0 := ha18_0.mono PieceR.mono hle31
    replace ha19_0 := ha19_0.mono PieceR.mono hle31
    replace ha20_0 := ha20_0.mono PieceR.mono hle31
    replace hz21 := hz21.mono PutR.mono hle31
    replace hz22 := hz22.mono PieceR.mono hle31
    replace hz23 := hz23.mono PieceR.mono hle31
    replace hz24 := hz24.mono PieceR.mono hle31
    replace hz25 := hz25.mono PieceR.mono hle31
    replace hz26 := hz26.mono PieceR.mono hle31
    replace hz27 := hz27.mono PieceR.mono hle31
    replace hz28 := hz28.mono PieceR.mono hle31
    replace hz29 := hz29.mono PieceR.mono hle31
    replace hz30 := hz30.mono PieceR.mono hle31
    refine .ret ?_
    obtain rfl := sI hF
    refine retQ_r ((((((((((((((((((((((hle3.trans hle1).trans hle11).trans hle12).trans hle13).trans hle14).trans hle15).trans hle16).trans hle17).trans hle18).trans hle19).trans hle20).trans hle21).trans hle22).trans hle23).trans hle24).trans hle25).trans hle26).trans hle27).trans hle28).trans hle29).trans hle30).trans hle31) (.cell (.a (vs := [_, _, _, _, _, _, _, _, _, _, _, _]) rfl .hd a_97 s_97 rfl rfl) .nil) rfl ?_
    exact ⟨_, rfl, (VersionR.of hz21 hz22 hz23 hz24 hz25 hz26 hz27 hz28 hz29 hz30 hz31)⟩
structure L_code_Amend_1 where
  k1_1 : Nat
  s1_2 : List UInt8
  v1_4 : V
  cs1_5 : List V
  d1_3 : List Version
def F_code_Amend_l1 (p1 : Version) (q12 : (List Version)) : Nat → Nat → List UInt8 → List Version → Option ((List UInt8 × List Version))
  | 0, k1_1, s1_2, d1_3 => some ((s1_2, d1_3))
  | mm1 + 1, k1_1, s1_2, d1_3 => ((atI (q12 ++ [p1]) (k1_1 : Int)).bind fun y17 => ((F_code_copied y17).bind fun q19 => (ck (decide (d1_3.length + 1 ≤ 1000000)) (F_code_Amend_l1 p1 q12 mm1 (k1_1 + 1) s1_2 (d1_3 ++ [q19])))))
structure L_code_Amend_2 where
  k2_1 : Nat
  s2_2 : List UInt8
  v2_4 : V
  cs2_5 : List V
  d2_3 : List Version
def F_code_Amend_l2 (p1 : Version) (q28 : (List Version)) : Nat → Nat → List UInt8 → List Version → Option ((List UInt8 × List Version))
  | 0, k2_1, s2_2, d2_3 => some ((s2_2, d2_3))
  | mm2 + 1, k2_1, s2_2, d2_3 => ((atI (q28 ++ [p1]) (k2_1 : Int)).bind fun y33 => ((F_code_copied y33).bind fun q35 => (ck (decide (d2_3.length + 1 ≤ 1000000)) (F_code_Amend_l2 p1 q28 mm2 (k2_1 + 1) s2_2 (d2_3 ++ [q35])))))
def F_code_Amend (p0 : Code) (p1 : Version) : Option (Code × Int) := ((F_code_of p0).bind fun q4 => (cond (!(decide (q4.e_ = 0))) (some ((Code.mk [] []), q4.e_)) ((cond (!(Version.ok p1)) (((F_code_question_fail q4 true 42).bind fun q8 => ((F_code_question_fail q8 (decide ((p0.vs.length : Int) = 12)) 2).bind fun q9 => (cond (!(decide (q9.e_ = 0))) (some ((Code.mk [] []), q9.e_)) (((F_slices_Clone_api_Version_api_Version p0.vs).bind fun q12 => (ck (decide (q12.length + 1 ≤ 1000000)) (((F_code_Amend_l1 p1 q12 ((((q12 ++ [p1]).length : Int) - (0 : Int)).toNat) 0 p0.name []).bind fun ⟨o1_0_1, o1_0_2⟩ => some ((Code.mk o1_0_1 o1_0_2), 0)))))))))) (((atI p0.vs ((p0.vs.length : Int) - 1)).bind fun y23 => ((F_code_question_fail q4 (decide (p1.fr ≤ y23.fr)) 42).bind fun q24 => ((F_code_question_fail q24 (decide ((p0.vs.length : Int) = 12)) 2).bind fun q25 => (cond (!(decide (q25.e_ = 0))) (some ((Code.mk [] []), q25.e_)) (((F_slices_Clone_api_Version_api_Version p0.vs).bind fun q28 => (ck (decide (q28.length + 1 ≤ 1000000)) (((F_code_Amend_l2 p1 q28 ((((q28 ++ [p1]).length : Int) - (0 : Int)).toNat) 0 p0.name []).bind fun ⟨o2_0_1, o2_0_2⟩ => some ((Code.mk o2_0_1 o2_0_2), 0)))))))))))))))
set_option maxHeartbeats 1000000 in
theorem F_code_Amend_ok (p0 : Code) (p1 : Version) (cs0 cs1 : List V) (g : G) (h0 : CodeR g cs0 p0) (h1 : VersionR g cs1 p1) (r : Code × Int) (hF : F_code_Amend p0 p1 = some r) : Fw Tryz.prog natS (.f 57 [] []) [.agg cs0, .agg cs1] g [] fun g' ml' q => ml' = [] ∧ ∃ (ds0 : List V), q = (.tup [.agg ds0, .i .i64 r.2]) ∧ CodeR g' ds0 r.1 := by
  refine Fw.drop ?_
  unfold F_code_Amend at hF
  obtain ⟨vq0, rfl, hcq0⟩ := h0
  have lh0_1 := hcq0.1
  obtain ⟨pq1, lvq1, rfl, hpq1, hlq1⟩ := h1
  have lh1_1 := hpq1.1
  have lh1_2 := (hlq1 0 (by decide)).1
  have lh1_3 := (hlq1 1 (by decide)).1
  have lh1_4 := (hlq1 2 (by decide)).1
  have lh1_5 := (hlq1 3 (by decide)).1
  have lh1_6 := (hlq1 4 (by decide)).1
  have lh1_7 := (hlq1 5 (by decide)).1
  have lh1_8 := (hlq1 6 (by decide)).1
  have lh1_9 := (hlq1 7 (by decide)).1
  have lh1_10 := (hlq1 8 (by decide)).1
  have lh1_11 := (hlq1 9 (by decide)).1
  refine Fw.enter (N := 78) (al := [(1, _), (0, _)]) Tryz.func57 (by kernel_rfl) (by kernel_rfl) rfl rfl rfl rfl ?_
  intro B
  refine .seq <| .region rfl <| .box .no rfl rfl rfl rfl fun b1 => .box .no rfl rfl rfl rfl fun b2 => .alloc .no rfl z_24 fun b3 => .z rfl rfl <| .nil <| sq_n <| .seq <| .region rfl <| .ld .no rfl (.a (vs := [_, _]) rfl (.tl (.tl .hd)) a_24 s_24 rfl rfl) ?_
  obtain ⟨q4, hq4, hF⟩ := bS hF
  refine .call .no rfl rfl rfl (F_code_of_ok p0 _ _ ⟨_, rfl, hcq0⟩ _ hq4) ?_
  rintro g4 ml4 r4 hle4 ⟨b4_0, cs4_0, rfl, rfl, ⟨v1_4_0, v3_4_0, v4_4_0, v5_4_0, v6_4_0, v7_4_0, v8_4_0, v9_4_0, v10_4_0, v11_4_0, v12_4_0, v13_4_0, rfl, h1_4_0, h3_4_0, h4_4_0, h5_4_0, h6_4_0, h7_4_0, h8_4_0, h9_4_0, h10_4_0, h11_4_0, h12_4_0, h13_4_0⟩⟩
  replace hcq0 := hcq0.mono VersionR.mono hle4
  replace hpq1 := hpq1.mono PutR.mono hle4
  replace hlq1 := fun k hk => (hlq1 k hk).mono PieceR.mono hle4
  have lh4_0_1 := h1_4_0.1
  have lh4_0_3 := h3_4_0.1
  have lh4_0_4 := h4_4_0.1
  have lh4_0_5 := h5_4_0.1
  have lh4_0_6 := h6_4_0.1
  have lh4_0_7 := h7_4_0.1
  have lh4_0_8 := h8_4_0.1
  have lh4_0_9 := h9_4_0.1
  have lh4_0_10 := h10_4_0.1
  have lh4_0_11 := h11_4_0.1
  have lh4_0_12 := h12_4_0.1
  have lh4_0_13 := h13_4_0.1
  refine .z rfl rfl <| .nil <| sq_n <| .seq <| .seq <| .region rfl <| .m rfl rfl <| .p .no rfl (.nil rfl) <| .p .no rfl (.fa rfl f_132_3) <| .ld .no rfl (.s rfl .hd a_30 rfl) <| .b rfl rfl rfl rfl <| .nil <| sq_n <| .cond rfl (fun h5 => ?_) (fun h5 => ?_)
  · have kh5 := dF (nT h5)
    have hF := cT h5 hF
    refine .seq <| .draw (tb := [r0 0 0, r1 0 0, r1 2 0, r1 6 0, r1 14 0, r0 1 0, r1 63 1]) rfl (by kernel_rfl) (by kernel_rfl) ?_
    refine .p .no rfl (.build (qs := []) (cs := [_, _]) rfl b_24 rfl) rfl rfl rfl <| .m rfl rfl <| .p .no rfl (.nil rfl) rfl rfl rfl <| .p .no rfl (.fa rfl f_132_3) rfl rfl rfl <| .y rfl rfl rfl (.s rfl .hd a_30 rfl) <| .st (cs' := [_, _]) .no rfl rfl rfl rfl rfl rfl s_24 rfl rfl (.tl .hd) rfl rfl (FrL.cN (fun _ s => s.neb (.tl .hd) .hd) FrL.n) <| .z rfl rfl <| .nil <| sq_n <| .ret <| sq_r ?_
    obtain rfl := sI hF
    refine retQ_r hle4 (.cell (.a (vs := [_, _]) rfl (.tl .hd) a_24 s_24 rfl rfl) (.tmp rfl .nil)) rfl ?_
    exact ⟨_, rfl, ⟨_, rfl, RS.nil⟩⟩
  · have kh5 := dT (nF h5)
    have hF := cF h5 hF
    refine .skip <| sq_n <| .seq <| .region rfl <| .p .no rfl (.fa rfl f_24_1) <| .ld .no rfl (.s rfl (.tl (.tl (.tl .hd))) a_22 rfl) <| .p .no rfl (.lenR rfl rfl rfl e_22 hcq0) <| .z rfl rfl <| .nil <| sq_n <| .seq <| .seq <| .draw (tb := [r0 0 0, r1 0 0, r1 2 0, r1 6 1, r1 14 1, r0 30 1, r0 62 1, r0 30 1, r0 158 1, r0 30 1, r0 542 1, r0 1950 1, r0 3998 1, r0 8094 1, r1 16382 1, r1 32766 1, r1 65535 1, r0 0 0, r0 131072 0, r1 524287 2, r1 1048575 3, r1 2097151 3, r1 4194303 3, r1 8388607 3]) rfl (by kernel_rfl) (by kernel_rfl) ?_
    refine .m rfl rfl <| .y rfl rfl rfl (.a (vs := [_, _, _, _, _, _, _, _, _, _, _, _]) rfl (.tl (.tl .hd)) a_97 s_97 rfl rfl) <| .callV .no rfl rfl rfl rfl rfl (isVersion_ok _ _ _ ⟨_, _, rfl, hpq1, hlq1⟩) <| .p .no rfl (.not rfl) rfl rfl rfl <| .m rfl rfl <| .split (t := 30) rfl (fun h7 => ?_) (fun h7 => ?_)
    · have kh7 := (nT h7)
      have hF := cT h7 hF
      refine .skip (.yes rfl rfl h7) rfl rfl <| .skip (.yes rfl rfl h7) rfl rfl <| .skip (.yes rfl rfl h7) rfl rfl <| .skip (.yes rfl rfl h7) rfl rfl <| .skip (.yes rfl rfl h7) rfl rfl <| .skip (.yes rfl rfl h7) rfl rfl <| .skip (.yes rfl rfl h7) rfl rfl <| .skip (.yes rfl rfl h7) rfl rfl <| .skip (.yes rfl rfl h7) rfl rfl <| .skip (.yes rfl rfl h7) rfl rfl <| .p .no rfl (.pickT rfl h7 rfl) rfl rfl rfl ?_
      obtain ⟨q8, hq8, hF⟩ := bS hF
      refine .callT .no rfl rfl rfl rfl rfl rfl .hd (F_code_question_fail_ok q4 true 42 _ _ _ ⟨_, _, _, _, _, _, _, _, _, _, _, _, rfl, h1_4_0, h3_4_0, h4_4_0, h5_4_0, h6_4_0, h7_4_0, h8_4_0, h9_4_0, h10_4_0, h11_4_0, h12_4_0, h13_4_0⟩ _ hq8) ?_
      rintro g8 ml8 r8 hle8 ⟨cs8_0, rfl, rfl, ⟨v1_8_0, v3_8_0, v4_8_0, v5_8_0, v6_8_0, v7_8_0, v8_8_0, v9_8_0, v10_8_0, v11_8_0, v12_8_0, v13_8_0, rfl, h1_8_0, h3_8_0, h4_8_0, h5_8_0, h6_8_0, h7_8_0, h8_8_0, h9_8_0, h10_8_0, h11_8_0, h12_8_0, h13_8_0⟩⟩
      replace hcq0 := hcq0.mono VersionR.mono hle8
      replace hpq1 := hpq1.mono PutR.mono hle8
      replace hlq1 := fun k hk => (hlq1 k hk).mono PieceR.mono hle8
      replace h1_4_0 := h1_4_0.mono VersionR.mono hle8
      replace h3_4_0 := h3_4_0.mono PutR.mono hle8
      replace h4_4_0 := h4_4_0.mono PieceR.mono hle8
      replace h5_4_0 := h5_4_0.mono PieceR.mono hle8
      replace h6_4_0 := h6_4_0.mono PieceR.mono hle8
      replace h7_4_0 := h7_4_0.mono PieceR.mono hle8
      replace h8_4_0 := h8_4_0.mono PieceR.mono hle8
      replace h9_4_0 := h9_4_0.mono PieceR.mono hle8
      replace h10_4_0 := h10_4_0.mono PieceR.mono hle8
      replace h11_4_0 := h11_4_0.mono PieceR.mono hle8
      replace h12_4_0 := h12_4_0.mono PieceR.mono hle8
      replace h13_4_0 := h13_4_0.mono PieceR.mono hle8
      have lh8_0_1 := h1_8_0.1
      have lh8_0_3 := h3_8_0.1
      have lh8_0_4 := h4_8_0.1
      have lh8_0_5 := h5_8_0.1
      have lh8_0_6 := h6_8_0.1
      have lh8_0_7 := h7_8_0.1
      have lh8_0_8 := h8_8_0.1
      have lh8_0_9 := h9_8_0.1
      have lh8_0_10 := h10_8_0.1
      have lh8_0_11 := h11_8_0.1
      have lh8_0_12 := h12_8_0.1
      have lh8_0_13 := h13_8_0.1
      refine .m rfl rfl <| .b rfl rfl rfl rfl ?_
      obtain ⟨q9, hq9, hF⟩ := bS hF
      refine .callT .no rfl rfl rfl rfl rfl rfl .hd (F_code_question_fail_ok q8 (decide ((p0.vs.length : Int) = 12)) 2 _ _ _ ⟨_, _, _, _, _, _, _, _, _, _, _, _, rfl, h1_8_0, h3_8_0, h4_8_0, h5_8_0, h6_8_0, h7_8_0, h8_8_0, h9_8_0, h10_8_0, h11_8_0, h12_8_0, h13_8_0⟩ _ hq9) ?_
      rintro g9 ml9 r9 hle9 ⟨cs9_0, rfl, rfl, ⟨v1_9_0, v3_9_0, v4_9_0, v5_9_0, v6_9_0, v7_9_0, v8_9_0, v9_9_0, v10_9_0, v11_9_0, v12_9_0, v13_9_0, rfl, h1_9_0, h3_9_0, h4_9_0, h5_9_0, h6_9_0, h7_9_0, h8_9_0, h9_9_0, h10_9_0, h11_9_0, h12_9_0, h13_9_0⟩⟩
      replace hcq0 := hcq0.mono VersionR.mono hle9
      replace hpq1 := hpq1.mono PutR.mono hle9
      replace hlq1 := fun k hk => (hlq1 k hk).mono PieceR.mono hle9
      replace h1_4_0 := h1_4_0.mono VersionR.mono hle9
      replace h3_4_0 := h3_4_0.mono PutR.mono hle9
      replace h4_4_0 := h4_4_0.mono PieceR.mono hle9
      replace h5_4_0 := h5_4_0.mono PieceR.mono hle9
      replace h6_4_0 := h6_4_0.mono PieceR.mono hle9
      replace h7_4_0 := h7_4_0.mono PieceR.mono hle9
      replace h8_4_0 := h8_4_0.mono PieceR.mono hle9
      replace h9_4_0 := h9_4_0.mono PieceR.mono hle9
      replace h10_4_0 := h10_4_0.mono PieceR.mono hle9
      replace h11_4_0 := h11_4_0.mono PieceR.mono hle9
      replace h12_4_0 := h12_4_0.mono PieceR.mono hle9
      replace h13_4_0 := h13_4_0.mono PieceR.mono hle9
      replace h1_8_0 := h1_8_0.mono VersionR.mono hle9
      replace h3_8_0 := h3_8_0.mono PutR.mono hle9
      replace h4_8_0 := h4_8_0.mono PieceR.mono hle9
      replace h5_8_0 := h5_8_0.mono PieceR.mono hle9
      replace h6_8_0 := h6_8_0.mono PieceR.mono hle9
      replace h7_8_0 := h7_8_0.mono PieceR.mono hle9
      replace h8_8_0 := h8_8_0.mono PieceR.mono hle9
      replace h9_8_0 := h9_8_0.mono PieceR.mono hle9
      replace h10_8_0 := h10_8_0.mono PieceR.mono hle9
      replace h11_8_0 := h11_8_0.mono PieceR.mono hle9
      replace h12_8_0 := h12_8_0.mono PieceR.mono hle9
      replace h13_8_0 := h13_8_0.mono PieceR.mono hle9
      have lh9_0_1 := h1_9_0.1
      have lh9_0_3 := h3_9_0.1
      have lh9_0_4 := h4_9_0.1
      have lh9_0_5 := h5_9_0.1
      have lh9_0_6 := h6_9_0.1
      have lh9_0_7 := h7_9_0.1
      have lh9_0_8 := h8_9_0.1
      have lh9_0_9 := h9_9_0.1
      have lh9_0_10 := h10_9_0.1
      have lh9_0_11 := h11_9_0.1
      have lh9_0_12 := h12_9_0.1
      have lh9_0_13 := h13_9_0.1
      refine .p .no rfl (.nil rfl) rfl rfl rfl <| .p .no rfl (.fa rfl f_132_3) rfl rfl rfl <| .y rfl rfl rfl (.s rfl .hd a_30 rfl) <| .b rfl rfl rfl rfl <| .nil <| sq_n <| .cond rfl (fun h10 => ?_) (fun h10 => ?_)
      · have kh10 := dF (nT h10)
        have hF := cT h10 hF
        refine .seq <| .draw (tb := [r0 0 0, r1 0 0, r1 2 0, r1 6 0, r1 14 0, r0 1 0, r1 63 1]) rfl (by kernel_rfl) (by kernel_rfl) ?_
        refine .p .no rfl (.build (qs := []) (cs := [_, _]) rfl b_24 rfl) rfl rfl rfl <| .m rfl rfl <| .p .no rfl (.nil rfl) rfl rfl rfl <| .p .no rfl (.fa rfl f_132_3) rfl rfl rfl <| .y rfl rfl rfl (.s rfl .hd a_30 rfl) <| .st (cs' := [_, _]) .no rfl rfl rfl rfl rfl rfl s_24 rfl rfl (.tl .hd) rfl rfl (FrL.cN (fun _ s => s.neb (.tl .hd) .hd) FrL.n) <| .z rfl rfl <| .nil <| sq_n <| .ret <| sq_r ?_
        obtain rfl := sI hF
        refine retQ_r ((hle4.trans hle8).trans hle9) (.cell (.a (vs := [_, _]) rfl (.tl .hd) a_24 s_24 rfl rfl) (.tmp rfl .nil)) rfl ?_
        exact ⟨_, rfl, ⟨_, rfl, RS.nil⟩⟩
      · have kh10 := dT (nF h10)
        have hF := cF h10 hF
        refine .skip <| sq_n <| .seq <| .region rfl <| .p .no rfl (.fa rfl f_24_0) <| .ld .no rfl (.s rfl (.tl (.tl (.tl .hd))) a_9 rfl) <| .p .no rfl (.build (qs := [(0, _)]) (cs := [_, _]) rfl b_24 rfl) <| .alloc .no rfl z_24 fun b11 => .st (cs' := [_, _]) .no rfl rfl rfl rfl s_24 rfl rfl .hd rfl rfl <| .nil <| sq_n <| .seq <| .seq <| .draw (tb := [r0 0 0, r0 1 0, r0 3 0, r0 0 0, r0 8 0, r1 31 1, r1 63 2, r0 0 0]) rfl (by kernel_rfl) (by kernel_rfl) ?_
        refine .p .no rfl (.fa rfl f_24_1) rfl rfl rfl <| .y rfl rfl rfl (.s rfl (.tl (.tl (.tl (.tl .hd)))) a_22 rfl) ?_
        obtain ⟨q12, hq12, hF⟩ := bS hF
        refine .call .no rfl rfl rfl rfl rfl (F_slices_Clone_api_Version_api_Version_ok p0.vs _ _ hcq0 _ hq12) ?_
        rintro g12 ml12 r12 hle12 ⟨cs12_0, w12_0, rfl, rfl, ha12_0⟩
        replace hcq0 := hcq0.mono VersionR.mono hle12
        replace hpq1 := hpq1.mono PutR.mono hle12
        replace hlq1 := fun k hk => (hlq1 k hk).mono PieceR.mono hle12
        replace h1_4_0 := h1_4_0.mono VersionR.mono hle12
        replace h3_4_0 := h3_4_0.mono PutR.mono hle12
        replace h4_4_0 := h4_4_0.mono PieceR.mono hle12
        replace h5_4_0 := h5_4_0.mono PieceR.mono hle12
        replace h6_4_0 := h6_4_0.mono PieceR.mono hle12
        replace h7_4_0 := h7_4_0.mono PieceR.mono hle12
        replace h8_4_0 := h8_4_0.mono PieceR.mono hle12
        replace h9_4_0 := h9_4_0.mono PieceR.mono hle12
        replace h10_4_0 := h10_4_0.mono PieceR.mono hle12
        replace h11_4_0 := h11_4_0.mono PieceR.mono hle12
        replace h12_4_0 := h12_4_0.mono PieceR.mono hle12
        replace h13_4_0 := h13_4_0.mono PieceR.mono hle12
        replace h1_8_0 := h1_8_0.mono VersionR.mono hle12
        replace h3_8_0 := h3_8_0.mono PutR.mono hle12
        replace h4_8_0 := h4_8_0.mono PieceR.mono hle12
        replace h5_8_0 := h5_8_0.mono PieceR.mono hle12
        replace h6_8_0 := h6_8_0.mono PieceR.mono hle12
        replace h7_8_0 := h7_8_0.mono PieceR.mono hle12
        replace h8_8_0 := h8_8_0.mono PieceR.mono hle12
        replace h9_8_0 := h9_8_0.mono PieceR.mono hle12
        replace h10_8_0 := h10_8_0.mono PieceR.mono hle12
        replace h11_8_0 := h11_8_0.mono PieceR.mono hle12
        replace h12_8_0 := h12_8_0.mono PieceR.mono hle12
        replace h13_8_0 := h13_8_0.mono PieceR.mono hle12
        replace h1_9_0 := h1_9_0.mono VersionR.mono hle12
        replace h3_9_0 := h3_9_0.mono PutR.mono hle12
        replace h4_9_0 := h4_9_0.mono PieceR.mono hle12
        replace h5_9_0 := h5_9_0.mono PieceR.mono hle12
        replace h6_9_0 := h6_9_0.mono PieceR.mono hle12
        replace h7_9_0 := h7_9_0.mono PieceR.mono hle12
        replace h8_9_0 := h8_9_0.mono PieceR.mono hle12
        replace h9_9_0 := h9_9_0.mono PieceR.mono hle12
        replace h10_9_0 := h10_9_0.mono PieceR.mono hle12
        replace h11_9_0 := h11_9_0.mono PieceR.mono hle12
        replace h12_9_0 := h12_9_0.mono PieceR.mono hle12
        replace h13_9_0 := h13_9_0.mono PieceR.mono hle12
        have lha12_0 := ha12_0.le
        refine .ld (k := 1) .no rfl rfl rfl trivial (.a (vs := [_, _, _, _, _, _, _, _, _, _, _, _]) rfl (.tl (.tl (.tl .hd))) a_97 s_97 rfl rfl) <| .f .no rfl (.bs (qs := [(0, _)]) (c := [_, _, _, _, _, _, _, _, _, _, _, _]) rfl sl_22 el_97 (by decide) rfl) fun b13 => ?_
        obtain ⟨hl14, hF⟩ := ckS hF
        have hl14 := of_decide_eq_true hl14
        refine .ne .hd (.tl (.tl (.tl .hd))) fun hn14_b2 => .ne .hd (.tl (.tl (.tl (.tl .hd)))) fun hn14_b1 => .x .no rfl rfl (pinF_t rfl pinF_n) (restA_t rfl restA_n) (mo_app rfl) (fun _ _ => .all (allA_c rfl (allA_c rfl rfl))) (.appA (m := 1) (new := [_, _, _, _, _, _, _, _, _, _, _, _]) rfl rfl rfl (.tl .hd) sl_22 el_97 (.of rfl .sl sl_22 .hd (Nat.le_of_ble_eq_true rfl) rfl) (by decide) rfl (AccR.room (R := VersionR) (ys := [p1]) ha12_0 (Ls.cons (c := [_, _, _, _, _, _, _, _, _, _, _, _]) rfl (VersionR.of hpq1 (hlq1 0 (by decide)) (hlq1 1 (by decide)) (hlq1 2 (by decide)) (hlq1 3 (by decide)) (hlq1 4 (by decide)) (hlq1 5 (by decide)) (hlq1 6 (by decide)) (hlq1 7 (by decide)) (hlq1 8 (by decide)) (hlq1 9 (by decide))) .nil) hl14) (allOne_cons rfl (allOne_cons hpq1.one (allOne_cons (hlq1 0 (by decide)).one (allOne_cons (hlq1 1 (by decide)).one (allOne_cons (hlq1 2 (by decide)).one (allOne_cons (hlq1 3 (by decide)).one (allOne_cons (hlq1 4 (by decide)).one (allOne_cons (hlq1 5 (by decide)).one (allOne_cons (hlq1 6 (by decide)).one (allOne_cons (hlq1 7 (by decide)).one (allOne_cons (hlq1 8 (by decide)).one (allOne_cons (hlq1 9 (by decide)).one rfl))))))))))))) fun v14 => .as (.tl .hd) fun av14 => ?_
        have ha14 := AccR.app (R := VersionR) (g := g12) (ys := [p1]) ha12_0 (Ls.cons (c := [_, _, _, _, _, _, _, _, _, _, _, _]) rfl (VersionR.of hpq1 (hlq1 0 (by decide)) (hlq1 1 (by decide)) (hlq1 2 (by decide)) (hlq1 3 (by decide)) (hlq1 4 (by decide)) (hlq1 5 (by decide)) (hlq1 6 (by decide)) (hlq1 7 (by decide)) (hlq1 8 (by decide)) (hlq1 9 (by decide))) .nil) hl14 av14
        have lha14 := ha14.le
        refine .p .no rfl (.lenA rfl rfl rfl e_22 (by decide) ha14) rfl rfl rfl <| .m rfl rfl <| .nil <| sq_n <| .block <| .acc 12 97 ?_
        obtain ⟨o1, hF, hG1⟩ := bS hF
        refine .loopx (α := L_code_Amend_1) [(4, _), (8, _), (63, _), (64, _)] [_, _, _, _, _, _] (fun fx x => (65, .i .i64 (x.k1_1 : Int)) :: fx) (fun mx x => [.acc x.v1_4 12 x.cs1_5 97, rg mx 0, rg mx 1, .blk b11 (.cells [.s x.s1_2, x.v1_4] 24), rg mx 2, rg mx 3, rg mx 4, rg mx 5]) (fun x g' => AccR VersionR 12 g' x.v1_4 x.cs1_5 x.d1_3 ∧ F_code_Amend_l1 p1 q12 ((((q12 ++ [p1]).length : Int) - (x.k1_1 : Int)).toNat) x.k1_1 x.s1_2 x.d1_3 = some o1) (fun x => (((q12 ++ [p1]).length : Int) - (x.k1_1 : Int)).toNat) (L_code_Amend_1.mk 0 p0.name _ _ []) ⟨rfl, rfl, rfl, rfl, rfl, trivial⟩ (List.Sublist.refl _) ⟨AccR.nil, hF⟩ ?_
        intro x1 g1 hle1 hJ1
        obtain ⟨k1_1, s1_2, v1_4, cs1_5, d1_3⟩ := x1
        try dsimp only at hJ1
        obtain ⟨ha1_6, hF⟩ := hJ1
        refine .al0 [(65, .i .i64 (k1_1 : Int)), (4, _), (8, _), (63, _), (64, _)] ?_
        replace hcq0 := hcq0.mono VersionR.mono hle1
        replace hpq1 := hpq1.mono PutR.mono hle1
        replace hlq1 := fun k hk => (hlq1 k hk).mono PieceR.mono hle1
        replace h1_4_0 := h1_4_0.mono VersionR.mono hle1
        replace h3_4_0 := h3_4_0.mono PutR.mono hle1
        replace h4_4_0 := h4_4_0.mono PieceR.mono hle1
        replace h5_4_0 := h5_4_0.mono PieceR.mono hle1
        replace h6_4_0 := h6_4_0.mono PieceR.mono hle1
        replace h7_4_0 := h7_4_0.mono PieceR.mono hle1
        replace h8_4_0 := h8_4_0.mono PieceR.mono hle1
        replace h9_4_0 := h9_4_0.mono PieceR.mono hle1
        replace h10_4_0 := h10_4_0.mono PieceR.mono hle1
        replace h11_4_0 := h11_4_0.mono PieceR.mono hle1
        replace h12_4_0 := h12_4_0.mono PieceR.mono hle1
        replace h13_4_0 := h13_4_0.mono PieceR.mono hle1
        replace h1_8_0 := h1_8_0.mono VersionR.mono hle1
        replace h3_8_0 := h3_8_0.mono PutR.mono hle1
        replace h4_8_0 := h4_8_0.mono PieceR.mono hle1
        replace h5_8_0 := h5_8_0.mono PieceR.mono hle1
        replace h6_8_0 := h6_8_0.mono PieceR.mono hle1
        replace h7_8_0 := h7_8_0.mono PieceR.mono hle1
        replace h8_8_0 := h8_8_0.mono PieceR.mono hle1
        replace h9_8_0 := h9_8_0.mono PieceR.mono hle1
        replace h10_8_0 := h10_8_0.mono PieceR.mono hle1
        replace h11_8_0 := h11_8_0.mono PieceR.mono hle1
        replace h12_8_0 := h12_8_0.mono PieceR.mono hle1
        replace h13_8_0 := h13_8_0.mono PieceR.mono hle1
        replace h1_9_0 := h1_9_0.mono VersionR.mono hle1
        replace h3_9_0 := h3_9_0.mono PutR.mono hle1
        replace h4_9_0 := h4_9_0.mono PieceR.mono hle1
        replace h5_9_0 := h5_9_0.mono PieceR.mono hle1
        replace h6_9_0 := h6_9_0.mono PieceR.mono hle1
        replace h7_9_0 := h7_9_0.mono PieceR.mono hle1
        replace h8_9_0 := h8_9_0.mono PieceR.mono hle1
        replace h9_9_0 := h9_9_0.mono PieceR.mono hle1
        replace h10_9_0 := h10_9_0.mono PieceR.mono hle1
        replace h11_9_0 := h11_9_0.mono PieceR.mono hle1
        replace h12_9_0 := h12_9_0.mono PieceR.mono hle1
        replace h13_9_0 := h13_9_0.mono PieceR.mono hle1
        replace ha12_0 := ha12_0.mono VersionR.mono hle1
        replace ha14 := ha14.mono VersionR.mono hle1
        have lha1_6 := ha1_6.le
        refine .seq <| .region rfl <| .b rfl rfl rfl rfl <| .nil <| sq_n <| .seq <| .cond rfl (fun h16 => ?_) (fun h16 => ?_)
        · have kh16 := dT h16
          have em1 : (((q12 ++ [p1]).length : Int) - (k1_1 : Int)).toNat = (((q12 ++ [p1]).length : Int) - ((k1_1 + 1 : Nat) : Int)).toNat + 1 := by omega
          rw [em1, F_code_Amend_l1] at hF
          refine .skip <| sq_n <| .seq <| .block <| .seq <| .region rfl ?_
          obtain ⟨y17, hy17, hF⟩ := bS hF
          have hj17 := atI_lt hy17
          have hy17 := atI_get hy17
          refine .ixA .no rfl rfl ha14 rfl e_22 (by decide) hj17.1 hy17 ?_
          intro b17 n17 cs17 hv17 hc17 hd17 hr17
          obtain ⟨p17, lv17, rfl, hp17, hl17⟩ := hr17
          have lh17_1 := hp17.1
          have lh17_2 := (hl17 0 (by decide)).1
          have lh17_3 := (hl17 1 (by decide)).1
          have lh17_4 := (hl17 2 (by decide)).1
          have lh17_5 := (hl17 3 (by decide)).1
          have lh17_6 := (hl17 4 (by decide)).1
          have lh17_7 := (hl17 5 (by decide)).1
          have lh17_8 := (hl17 6 (by decide)).1
          have lh17_9 := (hl17 7 (by decide)).1
          have lh17_10 := (hl17 8 (by decide)).1
          have lh17_11 := (hl17 9 (by decide)).1
          refine .ld .no rfl (.aa 0 (vs := [_, _, _, _, _, _, _, _, _, _, _, _]) rfl (.tl (.tl (.acc hv17 rfl))) rfl hd17 hc17 (AccR.cellsLe ha14 hy17) a_97 s_97 rfl rfl) <| .alloc .no rfl z_97 fun b18 => .st (cs' := [_, _, _, _, _, _, _, _, _, _, _, _]) .no rfl rfl rfl rfl s_97 rfl rfl .hd rfl (allOne_cons rfl (allOne_cons hp17.one (allOne_cons (hl17 0 (by decide)).one (allOne_cons (hl17 1 (by decide)).one (allOne_cons (hl17 2 (by decide)).one (allOne_cons (hl17 3 (by decide)).one (allOne_cons (hl17 4 (by decide)).one (allOne_cons (hl17 5 (by decide)).one (allOne_cons (hl17 6 (by decide)).one (allOne_cons (hl17 7 (by decide)).one (allOne_cons (hl17 8 (by decide)).one (allOne_cons (hl17 9 (by decide)).one rfl)))))))))))) <| .nil <| sq_n <| .draw (tb := [r0 0 0, r0 1 0, r0 0 0, r0 4 0, r0 12 1, r1 31 1, r1 63 2, r1 127 2]) rfl (by kernel_rfl) (by kernel_rfl) ?_
          refine .p .no rfl (.fa rfl f_24_1) rfl rfl rfl <| .y rfl rfl rfl (.s rfl (.tl (.tl (.tl (.tl .hd)))) a_22 rfl) <| .y rfl rfl rfl (.a (vs := [_, _, _, _, _, _, _, _, _, _, _, _]) rfl .hd a_97 s_97 rfl rfl) ?_
          obtain ⟨q19, hq19, hF⟩ := bS hF
          refine .call .no rfl rfl rfl rfl rfl (F_code_copied_ok y17 _ _ ⟨_, _, rfl, hp17, hl17⟩ _ hq19) ?_
          rintro g19 ml19 r19 hle19 ⟨rfl, cs19_0, rfl, ⟨p19_0, lv19_0, rfl, hp19_0, hl19_0⟩⟩
          replace hcq0 := hcq0.mono VersionR.mono hle19
          replace hpq1 := hpq1.mono PutR.mono hle19
          replace hlq1 := fun k hk => (hlq1 k hk).mono PieceR.mono hle19
          replace h1_4_0 := h1_4_0.mono VersionR.mono hle19
          replace h3_4_0 := h3_4_0.mono PutR.mono hle19
          replace h4_4_0 := h4_4_0.mono PieceR.mono hle19
          replace h5_4_0 := h5_4_0.mono PieceR.mono hle19
          replace h6_4_0 := h6_4_0.mono PieceR.mono hle19
          replace h7_4_0 := h7_4_0.mono PieceR.mono hle19
          replace h8_4_0 := h8_4_0.mono PieceR.mono hle19
          replace h9_4_0 := h9_4_0.mono PieceR.mono hle19
          replace h10_4_0 := h10_4_0.mono PieceR.mono hle19
          replace h11_4_0 := h11_4_0.mono PieceR.mono hle19
          replace h12_4_0 := h12_4_0.mono PieceR.mono hle19
          replace h13_4_0 := h13_4_0.mono PieceR.mono hle19
          replace h1_8_0 := h1_8_0.mono VersionR.mono hle19
          replace h3_8_0 := h3_8_0.mono PutR.mono hle19
          replace h4_8_0 := h4_8_0.mono PieceR.mono hle19
          replace h5_8_0 := h5_8_0.mono PieceR.mono hle19
          replace h6_8_0 := h6_8_0.mono PieceR.mono hle19
          replace h7_8_0 := h7_8_0.mono PieceR.mono hle19
          replace h8_8_0 := h8_8_0.mono PieceR.mono hle19
          replace h9_8_0 := h9_8_0.mono PieceR.mono hle19
          replace h10_8_0 := h10_8_0.mono PieceR.mono hle19
          replace h11_8_0 := h11_8_0.mono PieceR.mono hle19
          replace h12_8_0 := h12_8_0.mono PieceR.mono hle19
          replace h13_8_0 := h13_8_0.mono PieceR.mono hle19
          replace h1_9_0 := h1_9_0.mono VersionR.mono hle19
          replace h3_9_0 := h3_9_0.mono PutR.mono hle19
          replace h4_9_0 := h4_9_0.mono PieceR.mono hle19
          replace h5_9_0 := h5_9_0.mono PieceR.mono hle19
          replace h6_9_0 := h6_9_0.mono PieceR.mono hle19
          replace h7_9_0 := h7_9_0.mono PieceR.mono hle19
          replace h8_9_0 := h8_9_0.mono PieceR.mono hle19
          replace h9_9_0 := h9_9_0.mono PieceR.mono hle19
          replace h10_9_0 := h10_9_0.mono PieceR.mono hle19
          replace h11_9_0 := h11_9_0.mono PieceR.mono hle19
          replace h12_9_0 := h12_9_0.mono PieceR.mono hle19
          replace h13_9_0 := h13_9_0.mono PieceR.mono hle19
          replace ha12_0 := ha12_0.mono VersionR.mono hle19
          replace ha14 := ha14.mono VersionR.mono hle19
          replace ha1_6 := ha1_6.mono VersionR.mono hle19
          replace hp17 := hp17.mono PutR.mono hle19
          replace hl17 := fun k hk => (hl17 k hk).mono PieceR.mono hle19
          have lh19_0_1 := hp19_0.1
          have lh19_0_2 := (hl19_0 0 (by decide)).1
          have lh19_0_3 := (hl19_0 1 (by decide)).1
          have lh19_0_4 := (hl19_0 2 (by decide)).1
          have lh19_0_5 := (hl19_0 3 (by decide)).1
          have lh19_0_6 := (hl19_0 4 (by decide)).1
          have lh19_0_7 := (hl19_0 5 (by decide)).1
          have lh19_0_8 := (hl19_0 6 (by decide)).1
          have lh19_0_9 := (hl19_0 7 (by decide)).1
          have lh19_0_10 := (hl19_0 8 (by decide)).1
          have lh19_0_11 := (hl19_0 9 (by decide)).1
          refine .f .no rfl (.bs (qs := [(0, _)]) (c := [_, _, _, _, _, _, _, _, _, _, _, _]) rfl sl_22 el_97 (by decide) rfl) fun b20 => ?_
          obtain ⟨hl21, hF⟩ := ckS hF
          have hl21 := of_decide_eq_true hl21
          refine .ne (.tl .hd) .hd fun hn21_b18 => .ne (.tl .hd) (.tl (.tl (.tl .hd))) fun hn21_b11 => .x .no rfl rfl (pinF_t rfl pinF_n) (restA_t rfl restA_n) (mo_app rfl) (fun _ _ => .all (allA_c rfl (allA_c rfl rfl))) (.appA (m := 1) (new := [_, _, _, _, _, _, _, _, _, _, _, _]) rfl rfl rfl (.tl (.tl .hd)) sl_22 el_97 (.of rfl .sl sl_22 .hd (Nat.le_of_ble_eq_true rfl) rfl) (by decide) rfl (AccR.room (R := VersionR) (ys := [q19]) ha1_6 (Ls.cons (c := [_, _, _, _, _, _, _, _, _, _, _, _]) rfl (VersionR.of hp19_0 (hl19_0 0 (by decide)) (hl19_0 1 (by decide)) (hl19_0 2 (by decide)) (hl19_0 3 (by decide)) (hl19_0 4 (by decide)) (hl19_0 5 (by decide)) (hl19_0 6 (by decide)) (hl19_0 7 (by decide)) (hl19_0 8 (by decide)) (hl19_0 9 (by decide))) .nil) hl21) (allOne_cons rfl (allOne_cons hp19_0.one (allOne_cons (hl19_0 0 (by decide)).one (allOne_cons (hl19_0 1 (by decide)).one (allOne_cons (hl19_0 2 (by decide)).one (allOne_cons (hl19_0 3 (by decide)).one (allOne_cons (hl19_0 4 (by decide)).one (allOne_cons (hl19_0 5 (by decide)).one (allOne_cons (hl19_0 6 (by decide)).one (allOne_cons (hl19_0 7 (by decide)).one (allOne_cons (hl19_0 8 (by decide)).one (allOne_cons (hl19_0 9 (by decide)).one rfl))))))))))))) fun v21 => .as (.tl (.tl .hd)) fun av21 => ?_
          have ha21 := AccR.app (R := VersionR) (g := g19) (ys := [q19]) ha1_6 (Ls.cons (c := [_, _, _, _, _, _, _, _, _, _, _, _]) rfl (VersionR.of hp19_0 (hl19_0 0 (by decide)) (hl19_0 1 (by decide)) (hl19_0 2 (by decide)) (hl19_0 3 (by decide)) (hl19_0 4 (by decide)) (hl19_0 5 (by decide)) (hl19_0 6 (by decide)) (hl19_0 7 (by decide)) (hl19_0 8 (by decide)) (hl19_0 9 (by decide))) .nil) hl21 av21
          have lha21 := ha21.le
          refine .p .no rfl (.fa rfl f_24_1) rfl rfl rfl <| .st (cs' := [_, _]) .no rfl rfl rfl rfl ha21.any ha21.cells s_22 rfl rfl (.tl (.tl (.tl (.tl (.tl .hd))))) rfl (allOne_cons ha21.one rfl) (.all (allA_c rfl (allA_c rfl rfl))) <| .nil <| bq_n <| sq_n <| .region rfl <| .p .no rfl (.inc1 rfl rfl (by omega)) <| .m rfl rfl <| .nil <| loopQ_n (L_code_Amend_1.mk (k1_1 + 1) s1_2 _ _ (d1_3 ++ [q19])) ⟨rfl, rfl, rfl, rfl, rfl, trivial⟩ (.cons _ (.cons _ (List.Sublist.refl _))) hle19 ?_ ?_
          · exact ⟨ha21, hF⟩
          · simp only; omega
        · have kh16 := dF h16
          have em1 : (((q12 ++ [p1]).length : Int) - (k1_1 : Int)).toNat = 0 := by omega
          rw [em1, F_code_Amend_l1] at hF
          obtain rfl := sI hF
          have hF := hG1
          refine .exit <| sq_e <| lq_e <| bq_x rfl <| sq_n <| .seq <| .region rfl <| .ld .no rfl (.a (vs := [_, _]) rfl (.tl (.tl (.tl .hd))) a_24 s_24 rfl rfl) <| .st (cs' := [_, _]) .no rfl rfl rfl rfl s_24 rfl rfl (.tl (.tl (.tl (.tl (.tl .hd))))) rfl (allOne_cons rfl (allOne_cons ha1_6.one rfl)) <| .z rfl rfl <| .nil <| sq_n <| .see (seeFreeze VersionR.mono .hd (by decide) ha1_6) ?_
          rintro gz22 ⟨hle22, hz22⟩
          replace hcq0 := hcq0.mono VersionR.mono hle22
          replace hpq1 := hpq1.mono PutR.mono hle22
          replace hlq1 := fun k hk => (hlq1 k hk).mono PieceR.mono hle22
          replace h1_4_0 := h1_4_0.mono VersionR.mono hle22
          replace h3_4_0 := h3_4_0.mono PutR.mono hle22
          replace h4_4_0 := h4_4_0.mono PieceR.mono hle22
          replace h5_4_0 := h5_4_0.mono PieceR.mono hle22
          replace h6_4_0 := h6_4_0.mono PieceR.mono hle22
          replace h7_4_0 := h7_4_0.mono PieceR.mono hle22
          replace h8_4_0 := h8_4_0.mono PieceR.mono hle22
          replace h9_4_0 := h9_4_0.mono PieceR.mono hle22
          replace h10_4_0 := h10_4_0.mono PieceR.mono hle22
          replace h11_4_0 := h11_4_0.mono PieceR.mono hle22
          replace h12_4_0 := h12_4_0.mono PieceR.mono hle22
          replace h13_4_0 := h13_4_0.mono PieceR.mono hle22
          replace h1_8_0 := h1_8_0.mono VersionR.mono hle22
          replace h3_8_0 := h3_8_0.mono PutR.mono hle22
          replace h4_8_0 := h4_8_0.mono PieceR.mono hle22
          replace h5_8_0 := h5_8_0.mono PieceR.mono hle22
          replace h6_8_0 := h6_8_0.mono PieceR.mono hle22
          replace h7_8_0 := h7_8_0.mono PieceR.mono hle22
          replace h8_8_0 := h8_8_0.mono PieceR.mono hle22
          replace h9_8_0 := h9_8_0.mono PieceR.mono hle22
          replace h10_8_0 := h10_8_0.mono PieceR.mono hle22
          replace h11_8_0 := h11_8_0.mono PieceR.mono hle22
          replace h12_8_0 := h12_8_0.mono PieceR.mono hle22
          replace h13_8_0 := h13_8_0.mono PieceR.mono hle22
          replace h1_9_0 := h1_9_0.mono VersionR.mono hle22
          replace h3_9_0 := h3_9_0.mono PutR.mono hle22
          replace h4_9_0 := h4_9_0.mono PieceR.mono hle22
          replace h5_9_0 := h5_9_0.mono PieceR.mono hle22
          replace h6_9_0 := h6_9_0.mono PieceR.mono hle22
          replace h7_9_0 := h7_9_0.mono PieceR.mono hle22
          replace h8_9_0 := h8_9_0.mono PieceR.mono hle22
          replace h9_9_0 := h9_9_0.mono PieceR.mono hle22
          replace h10_9_0 := h10_9_0.mono PieceR.mono hle22
          replace h11_9_0 := h11_9_0.mono PieceR.mono hle22
          replace h12_9_0 := h12_9_0.mono PieceR.mono hle22
          replace h13_9_0 := h13_9_0.mono PieceR.mono hle22
          replace ha12_0 := ha12_0.mono VersionR.mono hle22
          replace ha14 := ha14.mono VersionR.mono hle22
          replace ha1_6 := ha1_6.mono VersionR.mono hle22
          refine .ret ?_
          obtain rfl := sI hF
          refine retQ_r (((((hle4.trans hle8).trans hle9).trans hle12).trans hle1).trans hle22) (.cell (.a (vs := [_, _]) rfl (.tl (.tl (.tl (.tl .hd)))) a_24 s_24 rfl rfl) (.tmp rfl .nil)) rfl ?_
          exact ⟨_, rfl, ⟨_, rfl, hz22⟩⟩
    · have kh7 := (nF h7)
      have hF := cF h7 hF
      refine .p (.yes rfl rfl h7) rfl (.fa rfl f_97_0) rfl rfl rfl <| .ld (k := 0) (.yes rfl rfl h7) rfl rfl rfl trivial (.s rfl (.tl (.tl .hd)) a_3 rfl) <| .p (.yes rfl rfl h7) rfl (.fa rfl f_24_1) rfl rfl rfl <| .ld (k := 0) (.yes rfl rfl h7) rfl rfl rfl trivial (.s rfl (.tl (.tl (.tl .hd))) a_22 rfl) <| .p (.yes rfl rfl h7) rfl (.move rfl) rfl rfl rfl <| .p (.yes rfl rfl h7) rfl (.sub rfl rfl (by omega)) rfl rfl rfl ?_
      obtain ⟨y23, hy23, hF⟩ := bS hF
      have hj23 := atI_lt hy23
      refine .ixl (.yes rfl rfl h7) rfl rfl hcq0 rfl e_22 hy23 ?_
      rintro b23 o23 _ hq23 ⟨p23, lv23, rfl, hp23, hl23⟩
      have lh23_1 := hp23.1
      have lh23_2 := (hl23 0 (by decide)).1
      have lh23_3 := (hl23 1 (by decide)).1
      have lh23_4 := (hl23 2 (by decide)).1
      have lh23_5 := (hl23 3 (by decide)).1
      have lh23_6 := (hl23 4 (by decide)).1
      have lh23_7 := (hl23 5 (by decide)).1
      have lh23_8 := (hl23 6 (by decide)).1
      have lh23_9 := (hl23 7 (by decide)).1
      have lh23_10 := (hl23 8 (by decide)).1
      have lh23_11 := (hl23 9 (by decide)).1
      refine .p (.yes rfl rfl h7) rfl (.fa rfl f_97_0) rfl rfl rfl <| .ld (k := 0) (.yes rfl rfl h7) rfl rfl rfl trivial (.ps 0 rfl hq23 rfl a_3 rfl) <| .p (.yes rfl rfl h7) rfl (.bin rfl rfl rfl) rfl rfl rfl <| .p .no rfl (.pickF rfl h7 rfl) rfl rfl rfl ?_
      obtain ⟨q24, hq24, hF⟩ := bS hF
      refine .callT .no rfl rfl rfl rfl rfl rfl .hd (F_code_question_fail_ok q4 (decide (p1.fr ≤ y23.fr)) 42 _ _ _ ⟨_, _, _, _, _, _, _, _, _, _, _, _, rfl, h1_4_0, h3_4_0, h4_4_0, h5_4_0, h6_4_0, h7_4_0, h8_4_0, h9_4_0, h10_4_0, h11_4_0, h12_4_0, h13_4_0⟩ _ hq24) ?_
      rintro g24 ml24 r24 hle24 ⟨cs24_0, rfl, rfl, ⟨v1_24_0, v3_24_0, v4_24_0, v5_24_0, v6_24_0, v7_24_0, v8_24_0, v9_24_0, v10_24_0, v11_24_0, v12_24_0, v13_24_0, rfl, h1_24_0, h3_24_0, h4_24_0, h5_24_0, h6_24_0, h7_24_0, h8_24_0, h9_24_0, h10_24_0, h11_24_0, h12_24_0, h13_24_0⟩⟩
      replace hcq0 := hcq0.mono VersionR.mono hle24
      replace hpq1 := hpq1.mono PutR.mono hle24
      replace hlq1 := fun k hk => (hlq1 k hk).mono PieceR.mono hle24
      replace h1_4_0 := h1_4_0.mono VersionR.mono hle24
      replace h3_4_0 := h3_4_0.mono PutR.mono hle24
      replace h4_4_0 := h4_4_0.mono PieceR.mono hle24
      replace h5_4_0 := h5_4_0.mono PieceR.mono hle24
      replace h6_4_0 := h6_4_0.mono PieceR.mono hle24
      replace h7_4_0 := h7_4_0.mono PieceR.mono hle24
      replace h8_4_0 := h8_4_0.mono PieceR.mono hle24
      replace h9_4_0 := h9_4_0.mono PieceR.mono hle24
      replace h10_4_0 := h10_4_0.mono PieceR.mono hle24
      replace h11_4_0 := h11_4_0.mono PieceR.mono hle24
      replace h12_4_0 := h12_4_0.mono PieceR.mono hle24
      replace h13_4_0 := h13_4_0.mono PieceR.mono hle24
      replace hq23 := hq23.mono hle24
      replace hp23 := hp23.mono PutR.mono hle24
      replace hl23 := fun k hk => (hl23 k hk).mono PieceR.mono hle24
      have lh24_0_1 := h1_24_0.1
      have lh24_0_3 := h3_24_0.1
      have lh24_0_4 := h4_24_0.1
      have lh24_0_5 := h5_24_0.1
      have lh24_0_6 := h6_24_0.1
      have lh24_0_7 := h7_24_0.1
      have lh24_0_8 := h8_24_0.1
      have lh24_0_9 := h9_24_0.1
      have lh24_0_10 := h10_24_0.1
      have lh24_0_11 := h11_24_0.1
      have lh24_0_12 := h12_24_0.1
      have lh24_0_13 := h13_24_0.1
      refine .m rfl rfl <| .b rfl rfl rfl rfl ?_
      obtain ⟨q25, hq25, hF⟩ := bS hF
      refine .callT .no rfl rfl rfl rfl rfl rfl .hd (F_code_question_fail_ok q24 (decide ((p0.vs.length : Int) = 12)) 2 _ _ _ ⟨_, _, _, _, _, _, _, _, _, _, _, _, rfl, h1_24_0, h3_24_0, h4_24_0, h5_24_0, h6_24_0, h7_24_0, h8_24_0, h9_24_0, h10_24_0, h11_24_0, h12_24_0, h13_24_0⟩ _ hq25) ?_
      rintro g25 ml25 r25 hle25 ⟨cs25_0, rfl, rfl, ⟨v1_25_0, v3_25_0, v4_25_0, v5_25_0, v6_25_0, v7_25_0, v8_25_0, v9_25_0, v10_25_0, v11_25_0, v12_25_0, v13_25_0, rfl, h1_25_0, h3_25_0, h4_25_0, h5_25_0, h6_25_0, h7_25_0, h8_25_0, h9_25_0, h10_25_0, h11_25_0, h12_25_0, h13_25_0⟩⟩
      replace hcq0 := hcq0.mono VersionR.mono hle25
      replace hpq1 := hpq1.mono PutR.mono hle25
      replace hlq1 := fun k hk => (hlq1 k hk).mono PieceR.mono hle25
      replace h1_4_0 := h1_4_0.mono VersionR.mono hle25
      replace h3_4_0 := h3_4_0.mono PutR.mono hle25
      replace h4_4_0 := h4_4_0.mono PieceR.mono hle25
      replace h5_4_0 := h5_4_0.mono PieceR.mono hle25
      replace h6_4_0 := h6_4_0.mono PieceR.mono hle25
      replace h7_4_0 := h7_4_0.mono PieceR.mono hle25
      replace h8_4_0 := h8_4_0.mono PieceR.mono hle25
      replace h9_4_0 := h9_4_0.mono PieceR.mono hle25
      replace h10_4_0 := h10_4_0.mono PieceR.mono hle25
      replace h11_4_0 := h11_4_0.mono PieceR.mono hle25
      replace h12_4_0 := h12_4_0.mono PieceR.mono hle25
      replace h13_4_0 := h13_4_0.mono PieceR.mono hle25
      replace hq23 := hq23.mono hle25
      replace hp23 := hp23.mono PutR.mono hle25
      replace hl23 := fun k hk => (hl23 k hk).mono PieceR.mono hle25
      replace h1_24_0 := h1_24_0.mono VersionR.mono hle25
      replace h3_24_0 := h3_24_0.mono PutR.mono hle25
      replace h4_24_0 := h4_24_0.mono PieceR.mono hle25
      replace h5_24_0 := h5_24_0.mono PieceR.mono hle25
      replace h6_24_0 := h6_24_0.mono PieceR.mono hle25
      replace h7_24_0 := h7_24_0.mono PieceR.mono hle25
      replace h8_24_0 := h8_24_0.mono PieceR.mono hle25
      replace h9_24_0 := h9_24_0.mono PieceR.mono hle25
      replace h10_24_0 := h10_24_0.mono PieceR.mono hle25
      replace h11_24_0 := h11_24_0.mono PieceR.mono hle25
      replace h12_24_0 := h12_24_0.mono PieceR.mono hle25
      replace h13_24_0 := h13_24_0.mono PieceR.mono hle25
      have lh25_0_1 := h1_25_0.1
      have lh25_0_3 := h3_25_0.1
      have lh25_0_4 := h4_25_0.1
      have lh25_0_5 := h5_25_0.1
      have lh25_0_6 := h6_25_0.1
      have lh25_0_7 := h7_25_0.1
      have lh25_0_8 := h8_25_0.1
      have lh25_0_9 := h9_25_0.1
      have lh25_0_10 := h10_25_0.1
      have lh25_0_11 := h11_25_0.1
      have lh25_0_12 := h12_25_0.1
      have lh25_0_13 := h13_25_0.1
      refine .p .no rfl (.nil rfl) rfl rfl rfl <| .p .no rfl (.fa rfl f_132_3) rfl rfl rfl <| .y rfl rfl rfl (.s rfl .hd a_30 rfl) <| .b rfl rfl rfl rfl <| .nil <| sq_n <| .cond rfl (fun h26 => ?_) (fun h26 => ?_)
      · have kh26 := dF (nT h26)
        have hF := cT h26 hF
        refine .seq <| .draw (tb := [r0 0 0, r1 0 0, r1 2 0, r1 6 0, r1 14 0, r0 1 0, r1 63 1]) rfl (by kernel_rfl) (by kernel_rfl) ?_
        refine .p .no rfl (.build (qs := []) (cs := [_, _]) rfl b_24 rfl) rfl rfl rfl <| .m rfl rfl <| .p .no rfl (.nil rfl) rfl rfl rfl <| .p .no rfl (.fa rfl f_132_3) rfl rfl rfl <| .y rfl rfl rfl (.s rfl .hd a_30 rfl) <| .st (cs' := [_, _]) .no rfl rfl rfl rfl rfl rfl s_24 rfl rfl (.tl .hd) rfl rfl (FrL.cN (fun _ s => s.neb (.tl .hd) .hd) FrL.n) <| .z rfl rfl <| .nil <| sq_n <| .ret <| sq_r ?_
        obtain rfl := sI hF
        refine retQ_r ((hle4.trans hle24).trans hle25) (.cell (.a (vs := [_, _]) rfl (.tl .hd) a_24 s_24 rfl rfl) (.tmp rfl .nil)) rfl ?_
        exact ⟨_, rfl, ⟨_, rfl, RS.nil⟩⟩
      · have kh26 := dT (nF h26)
        have hF := cF h26 hF
        refine .skip <| sq_n <| .seq <| .region rfl <| .p .no rfl (.fa rfl f_24_0) <| .ld .no rfl (.s rfl (.tl (.tl (.tl .hd))) a_9 rfl) <| .p .no rfl (.build (qs := [(0, _)]) (cs := [_, _]) rfl b_24 rfl) <| .alloc .no rfl z_24 fun b27 => .st (cs' := [_, _]) .no rfl rfl rfl rfl s_24 rfl rfl .hd rfl rfl <| .nil <| sq_n <| .seq <| .seq <| .draw (tb := [r0 0 0, r0 1 0, r0 3 0, r0 0 0, r0 8 0, r1 31 1, r1 63 2, r0 0 0]) rfl (by kernel_rfl) (by kernel_rfl) ?_
        refine .p .no rfl (.fa rfl f_24_1) rfl rfl rfl <| .y rfl rfl rfl (.s rfl (.tl (.tl (.tl (.tl .hd)))) a_22 rfl) ?_
        obtain ⟨q28, hq28, hF⟩ := bS hF
        refine .call .no rfl rfl rfl rfl rfl (F_slices_Clone_api_Version_api_Version_ok p0.vs _ _ hcq0 _ hq28) ?_
        rintro g28 ml28 r28 hle28 ⟨cs28_0, w28_0, rfl, rfl, ha28_0⟩
        replace hcq0 := hcq0.mono VersionR.mono hle28
        replace hpq1 := hpq1.mono PutR.mono hle28
        replace hlq1 := fun k hk => (hlq1 k hk).mono PieceR.mono hle28
        replace h1_4_0 := h1_4_0.mono VersionR.mono hle28
        replace h3_4_0 := h3_4_0.mono PutR.mono hle28
        replace h4_4_0 := h4_4_0.mono PieceR.mono hle28
        replace h5_4_0 := h5_4_0.mono PieceR.mono hle28
        replace h6_4_0 := h6_4_0.mono PieceR.mono hle28
        replace h7_4_0 := h7_4_0.mono PieceR.mono hle28
        replace h8_4_0 := h8_4_0.mono PieceR.mono hle28
        replace h9_4_0 := h9_4_0.mono PieceR.mono hle28
        replace h10_4_0 := h10_4_0.mono PieceR.mono hle28
        replace h11_4_0 := h11_4_0.mono PieceR.mono hle28
        replace h12_4_0 := h12_4_0.mono PieceR.mono hle28
        replace h13_4_0 := h13_4_0.mono PieceR.mono hle28
        replace hq23 := hq23.mono hle28
        replace hp23 := hp23.mono PutR.mono hle28
        replace hl23 := fun k hk => (hl23 k hk).mono PieceR.mono hle28
        replace h1_24_0 := h1_24_0.mono VersionR.mono hle28
        replace h3_24_0 := h3_24_0.mono PutR.mono hle28
        replace h4_24_0 := h4_24_0.mono PieceR.mono hle28
        replace h5_24_0 := h5_24_0.mono PieceR.mono hle28
        replace h6_24_0 := h6_24_0.mono PieceR.mono hle28
        replace h7_24_0 := h7_24_0.mono PieceR.mono hle28
        replace h8_24_0 := h8_24_0.mono PieceR.mono hle28
        replace h9_24_0 := h9_24_0.mono PieceR.mono hle28
        replace h10_24_0 := h10_24_0.mono PieceR.mono hle28
        replace h11_24_0 := h11_24_0.mono PieceR.mono hle28
        replace h12_24_0 := h12_24_0.mono PieceR.mono hle28
        replace h13_24_0 := h13_24_0.mono PieceR.mono hle28
        replace h1_25_0 := h1_25_0.mono VersionR.mono hle28
        replace h3_25_0 := h3_25_0.mono PutR.mono hle28
        replace h4_25_0 := h4_25_0.mono PieceR.mono hle28
        replace h5_25_0 := h5_25_0.mono PieceR.mono hle28
        replace h6_25_0 := h6_25_0.mono PieceR.mono hle28
        replace h7_25_0 := h7_25_0.mono PieceR.mono hle28
        replace h8_25_0 := h8_25_0.mono PieceR.mono hle28
        replace h9_25_0 := h9_25_0.mono PieceR.mono hle28
        replace h10_25_0 := h10_25_0.mono PieceR.mono hle28
        replace h11_25_0 := h11_25_0.mono PieceR.mono hle28
        replace h12_25_0 := h12_25_0.mono PieceR.mono hle28
        replace h13_25_0 := h13_25_0.mono PieceR.mono hle28
        have lha28_0 := ha28_0.le
        refine .ld (k := 1) .no rfl rfl rfl trivial (.a (vs := [_, _, _, _, _, _, _, _, _, _, _, _]) rfl (.tl (.tl (.tl .hd))) a_97 s_97 rfl rfl) <| .f .no rfl (.bs (qs := [(0, _)]) (c := [_, _, _, _, _, _, _, _, _, _, _, _]) rfl sl_22 el_97 (by decide) rfl) fun b29 => ?_
        obtain ⟨hl30, hF⟩ := ckS hF
        have hl30 := of_decide_eq_true hl30
        refine .ne .hd (.tl (.tl (.tl .hd))) fun hn30_b2 => .ne .hd (.tl (.tl (.tl (.tl .hd)))) fun hn30_b1 => .x .no rfl rfl (pinF_t rfl pinF_n) (restA_t rfl restA_n) (mo_app rfl) (fun _ _ => .all (allA_c rfl (allA_c rfl rfl))) (.appA (m := 1) (new := [_, _, _, _, _, _, _, _, _, _, _, _]) rfl rfl rfl (.tl .hd) sl_22 el_97 (.of rfl .sl sl_22 .hd (Nat.le_of_ble_eq_true rfl) rfl) (by decide) rfl (AccR.room (R := VersionR) (ys := [p1]) ha28_0 (Ls.cons (c := [_, _, _, _, _, _, _, _, _, _, _, _]) rfl (VersionR.of hpq1 (hlq1 0 (by decide)) (hlq1 1 (by decide)) (hlq1 2 (by decide)) (hlq1 3 (by decide)) (hlq1 4 (by decide)) (hlq1 5 (by decide)) (hlq1 6 (by decide)) (hlq1 7 (by decide)) (hlq1 8 (by decide)) (hlq1 9 (by decide))) .nil) hl30) (allOne_cons rfl (allOne_cons hpq1.one (allOne_cons (hlq1 0 (by decide)).one (allOne_cons (hlq1 1 (by decide)).one (allOne_cons (hlq1 2 (by decide)).one (allOne_cons (hlq1 3 (by decide)).one (allOne_cons (hlq1 4 (by decide)).one (allOne_cons (hlq1 5 (by decide)).one (allOne_cons (hlq1 6 (by decide)).one (allOne_cons (hlq1 7 (by decide)).one (allOne_cons (hlq1 8 (by decide)).one (allOne_cons (hlq1 9 (by decide)).one rfl))))))))))))) fun v30 => .as (.tl .hd) fun av30 => ?_
        have ha30 := AccR.app (R := VersionR) (g := g28) (ys := [p1]) ha28_0 (Ls.cons (c := [_, _, _, _, _, _, _, _, _, _, _, _]) rfl (VersionR.of hpq1 (hlq1 0 (by decide)) (hlq1 1 (by decide)) (hlq1 2 (by decide)) (hlq1 3 (by decide)) (hlq1 4 (by decide)) (hlq1 5 (by decide)) (hlq1 6 (by decide)) (hlq1 7 (by decide)) (hlq1 8 (by decide)) (hlq1 9 (by decide))) .nil) hl30 av30
        have lha30 := ha30.le
        refine .p .no rfl (.lenA rfl rfl rfl e_22 (by decide) ha30) rfl rfl rfl <| .m rfl rfl <| .nil <| sq_n <| .block <| .acc 12 97 ?_
        obtain ⟨o2, hF, hG2⟩ := bS hF
        refine .loopx (α := L_code_Amend_2) [(4, _), (8, _), (63, _), (64, _)] [_, _, _, _, _, _] (fun fx x => (65, .i .i64 (x.k2_1 : Int)) :: fx) (fun mx x => [.acc x.v2_4 12 x.cs2_5 97, rg mx 0, rg mx 1, .blk b27 (.cells [.s x.s2_2, x.v2_4] 24), rg mx 2, rg mx 3, rg mx 4, rg mx 5]) (fun x g' => AccR VersionR 12 g' x.v2_4 x.cs2_5 x.d2_3 ∧ F_code_Amend_l2 p1 q28 ((((q28 ++ [p1]).length : Int) - (x.k2_1 : Int)).toNat) x.k2_1 x.s2_2 x.d2_3 = some o2) (fun x => (((q28 ++ [p1]).length : Int) - (x.k2_1 : Int)).toNat) (L_code_Amend_2.mk 0 p0.name _ _ []) ⟨rfl, rfl, rfl, rfl, rfl, trivial⟩ (List.Sublist.refl _) ⟨AccR.nil, hF⟩ ?_
        intro x2 g2 hle2 hJ2
        obtain ⟨k2_1, s2_2, v2_4, cs2_5, d2_3⟩ := x2
        try dsimp only at hJ2
        obtain ⟨ha2_6, hF⟩ := hJ2
        refine .al0 [(65, .i .i64 (k2_1 : Int)), (4, _), (8, _), (63, _), (64, _)] ?_
        replace hcq0 := hcq0.mono VersionR.mono hle2
        replace hpq1 := hpq1.mono PutR.mono hle2
        replace hlq1 := fun k hk => (hlq1 k hk).mono PieceR.mono hle2
        replace h1_4_0 := h1_4_0.mono VersionR.mono hle2
        replace h3_4_0 := h3_4_0.mono PutR.mono hle2
        replace h4_4_0 := h4_4_0.mono PieceR.mono hle2
        replace h5_4_0 := h5_4_0.mono PieceR.mono hle2
        replace h6_4_0 := h6_4_0.mono PieceR.mono hle2
        replace h7_4_0 := h7_4_0.mono PieceR.mono hle2
        replace h8_4_0 := h8_4_0.mono PieceR.mono hle2
        replace h9_4_0 := h9_4_0.mono PieceR.mono hle2
        replace h10_4_0 := h10_4_0.mono PieceR.mono hle2
        replace h11_4_0 := h11_4_0.mono PieceR.mono hle2
        replace h12_4_0 := h12_4_0.mono PieceR.mono hle2
        replace h13_4_0 := h13_4_0.mono PieceR.mono hle2
        replace hq23 := hq23.mono hle2
        replace hp23 := hp23.mono PutR.mono hle2
        replace hl23 := fun k hk => (hl23 k hk).mono PieceR.mono hle2
        replace h1_24_0 := h1_24_0.mono VersionR.mono hle2
        replace h3_24_0 := h3_24_0.mono PutR.mono hle2
        replace h4_24_0 := h4_24_0.mono PieceR.mono hle2
        replace h5_24_0 := h5_24_0.mono PieceR.mono hle2
        replace h6_24_0 := h6_24_0.mono PieceR.mono hle2
        replace h7_24_0 := h7_24_0.mono PieceR.mono hle2
        replace h8_24_0 := h8_24_0.mono PieceR.mono hle2
        replace h9_24_0 := h9_24_0.mono PieceR.mono hle2
        replace h10_24_0 := h10_24_0.mono PieceR.mono hle2
        replace h11_24_0 := h11_24_0.mono PieceR.mono hle2
        replace h12_24_0 := h12_24_0.mono PieceR.mono hle2
        replace h13_24_0 := h13_24_0.mono PieceR.mono hle2
        replace h1_25_0 := h1_25_0.mono VersionR.mono hle2
        replace h3_25_0 := h3_25_0.mono PutR.mono hle2
        replace h4_25_0 := h4_25_0.mono PieceR.mono hle2
        replace h5_25_0 := h5_25_0.mono PieceR.mono hle2
        replace h6_25_0 := h6_25_0.mono PieceR.mono hle2
        replace h7_25_0 := h7_25_0.mono PieceR.mono hle2
        replace h8_25_0 := h8_25_0.mono PieceR.mono hle2
        replace h9_25_0 := h9_25_0.mono PieceR.mono hle2
        replace h10_25_0 := h10_25_0.mono PieceR.mono hle2
        replace h11_25_0 := h11_25_0.mono PieceR.mono hle2
        replace h12_25_0 := h12_25_0.mono PieceR.mono hle2
        replace h13_25_0 := h13_25_0.mono PieceR.mono hle2
        replace ha28_0 := ha28_0.mono VersionR.mono hle2
        replace ha30 := ha30.mono VersionR.mono hle2
        have lha2_6 := ha2_6.le
        refine .seq <| .region rfl <| .b rfl rfl rfl rfl <| .nil <| sq_n <| .seq <| .cond rfl (fun h32 => ?_) (fun h32 => ?_)
        · have kh32 := dT h32
          have em2 : (((q28 ++ [p1]).length : Int) - (k2_1 : Int)).toNat = (((q28 ++ [p1]).length : Int) - ((k2_1 + 1 : Nat) : Int)).toNat + 1 := by omega
          rw [em2, F_code_Amend_l2] at hF
          refine .skip <| sq_n <| .seq <| .block <| .seq <| .region rfl ?_
          obtain ⟨y33, hy33, hF⟩ := bS hF
          have hj33 := atI_lt hy33
          have hy33 := atI_get hy33
          refine .ixA .no rfl rfl ha30 rfl e_22 (by decide) hj33.1 hy33 ?_
          intro b33 n33 cs33 hv33 hc33 hd33 hr33
          obtain ⟨p33, lv33, rfl, hp33, hl33⟩ := hr33
          have lh33_1 := hp33.1
          have lh33_2 := (hl33 0 (by decide)).1
          have lh33_3 := (hl33 1 (by decide)).1
          have lh33_4 := (hl33 2 (by decide)).1
          have lh33_5 := (hl33 3 (by decide)).1
          have lh33_6 := (hl33 4 (by decide)).1
          have lh33_7 := (hl33 5 (by decide)).1
          have lh33_8 := (hl33 6 (by decide)).1
          have lh33_9 := (hl33 7 (by decide)).1
          have lh33_10 := (hl33 8 (by decide)).1
          have lh33_11 := (hl33 9 (by decide)).1
          refine .ld .no rfl (.aa 0 (vs := [_, _, _, _, _, _, _, _, _, _, _, _]) rfl (.tl (.tl (.acc hv33 rfl))) rfl hd33 hc33 (AccR.cellsLe ha30 hy33) a_97 s_97 rfl rfl) <| .alloc .no rfl z_97 fun b34 => .st (cs' := [_, _, _, _, _, _, _, _, _, _, _, _]) .no rfl rfl rfl rfl s_97 rfl rfl .hd rfl (allOne_cons rfl (allOne_cons hp33.one (allOne_cons (hl33 0 (by decide)).one (allOne_cons (hl33 1 (by decide)).one (allOne_cons (hl33 2 (by decide)).one (allOne_cons (hl33 3 (by decide)).one (allOne_cons (hl33 4 (by decide)).one (allOne_cons (hl33 5 (by decide)).one (allOne_cons (hl33 6 (by decide)).one (allOne_cons (hl33 7 (by decide)).one (allOne_cons (hl33 8 (by decide)).one (allOne_cons (hl33 9 (by decide)).one rfl)))))))))))) <| .nil <| sq_n <| .draw (tb := [r0 0 0, r0 1 0, r0 0 0, r0 4 0, r0 12 1, r1 31 1, r1 63 2, r1 127 2]) rfl (by kernel_rfl) (by kernel_rfl) ?_
          refine .p .no rfl (.fa rfl f_24_1) rfl rfl rfl <| .y rfl rfl rfl (.s rfl (.tl (.tl (.tl (.tl .hd)))) a_22 rfl) <| .y rfl rfl rfl (.a (vs := [_, _, _, _, _, _, _, _, _, _, _, _]) rfl .hd a_97 s_97 rfl rfl) ?_
          obtain ⟨q35, hq35, hF⟩ := bS hF
          refine .call .no rfl rfl rfl rfl rfl (F_code_copied_ok y33 _ _ ⟨_, _, rfl, hp33, hl33⟩ _ hq35) ?_
          rintro g35 ml35 r35 hle35 ⟨rfl, cs35_0, rfl, ⟨p35_0, lv35_0, rfl, hp35_0, hl35_0⟩⟩
          replace hcq0 := hcq0.mono VersionR.mono hle35
          replace hpq1 := hpq1.mono PutR.mono hle35
          replace hlq1 := fun k hk => (hlq1 k hk).mono PieceR.mono hle35
          replace h1_4_0 := h1_4_0.mono VersionR.mono hle35
          replace h3_4_0 := h3_4_0.mono PutR.mono hle35
          replace h4_4_0 := h4_4_0.mono PieceR.mono hle35
          replace h5_4_0 := h5_4_0.mono PieceR.mono hle35
          replace h6_4_0 := h6_4_0.mono PieceR.mono hle35
          replace h7_4_0 := h7_4_0.mono PieceR.mono hle35
          replace h8_4_0 := h8_4_0.mono PieceR.mono hle35
          replace h9_4_0 := h9_4_0.mono PieceR.mono hle35
          replace h10_4_0 := h10_4_0.mono PieceR.mono hle35
          replace h11_4_0 := h11_4_0.mono PieceR.mono hle35
          replace h12_4_0 := h12_4_0.mono PieceR.mono hle35
          replace h13_4_0 := h13_4_0.mono PieceR.mono hle35
          replace hq23 := hq23.mono hle35
          replace hp23 := hp23.mono PutR.mono hle35
          replace hl23 := fun k hk => (hl23 k hk).mono PieceR.mono hle35
          replace h1_24_0 := h1_24_0.mono VersionR.mono hle35
          replace h3_24_0 := h3_24_0.mono PutR.mono hle35
          replace h4_24_0 := h4_24_0.mono PieceR.mono hle35
          replace h5_24_0 := h5_24_0.mono PieceR.mono hle35
          replace h6_24_0 := h6_24_0.mono PieceR.mono hle35
          replace h7_24_0 := h7_24_0.mono PieceR.mono hle35
          replace h8_24_0 := h8_24_0.mono PieceR.mono hle35
          replace h9_24_0 := h9_24_0.mono PieceR.mono hle35
          replace h10_24_0 := h10_24_0.mono PieceR.mono hle35
          replace h11_24_0 := h11_24_0.mono PieceR.mono hle35
          replace h12_24_0 := h12_24_0.mono PieceR.mono hle35
          replace h13_24_0 := h13_24_0.mono PieceR.mono hle35
          replace h1_25_0 := h1_25_0.mono VersionR.mono hle35
          replace h3_25_0 := h3_25_0.mono PutR.mono hle35
          replace h4_25_0 := h4_25_0.mono PieceR.mono hle35
          replace h5_25_0 := h5_25_0.mono PieceR.mono hle35
          replace h6_25_0 := h6_25_0.mono PieceR.mono hle35
          replace h7_25_0 := h7_25_0.mono PieceR.mono hle35
          replace h8_25_0 := h8_25_0.mono PieceR.mono hle35
          replace h9_25_0 := h9_25_0.mono PieceR.mono hle35
          replace h10_25_0 := h10_25_0.mono PieceR.mono hle35
          replace h11_25_0 := h11_25_0.mono PieceR.mono hle35
          replace h12_25_0 := h12_25_0.mono PieceR.mono hle35
          replace h13_25_0 := h13_25_0.mono PieceR.mono hle35
          replace ha28_0 := ha28_0.mono VersionR.mono hle35
          replace ha30 := ha30.mono VersionR.mono hle35
          replace ha2_6 := ha2_6.mono VersionR.mono hle35
          replace hp33 := hp33.mono PutR.mono hle35
          replace hl33 := fun k hk => (hl33 k hk).mono PieceR.mono hle35
          have lh35_0_1 := hp35_0.1
          have lh35_0_2 := (hl35_0 0 (by decide)).1
          have lh35_0_3 := (hl35_0 1 (by decide)).1
          have lh35_0_4 := (hl35_0 2 (by decide)).1
          have lh35_0_5 := (hl35_0 3 (by decide)).1
          have lh35_0_6 := (hl35_0 4 (by decide)).1
          have lh35_0_7 := (hl35_0 5 (by decide)).1
          have lh35_0_8 := (hl35_0 6 (by decide)).1
          have lh35_0_9 := (hl35_0 7 (by decide)).1
          have lh35_0_10 := (hl35_0 8 (by decide)).1
          have lh35_0_11 := (hl35_0 9 (by decide)).1
          refine .f .no rfl (.bs (qs := [(0, _)]) (c := [_, _, _, _, _, _, _, _, _, _, _, _]) rfl sl_22 el_97 (by decide) rfl) fun b36 => ?_
          obtain ⟨hl37, hF⟩ := ckS hF
          have hl37 := of_decide_eq_true hl37
          refine .ne (.tl .hd) .hd fun hn37_b34 => .ne (.tl .hd) (.tl (.tl (.tl .hd))) fun hn37_b27 => .x .no rfl rfl (pinF_t rfl pinF_n) (restA_t rfl restA_n) (mo_app rfl) (fun _ _ => .all (allA_c rfl (allA_c rfl rfl))) (.appA (m := 1) (new := [_, _, _, _, _, _, _, _, _, _, _, _]) rfl rfl rfl (.tl (.tl .hd)) sl_22 el_97 (.of rfl .sl sl_22 .hd (Nat.le_of_ble_eq_true rfl) rfl) (by decide) rfl (AccR.room (R := VersionR) (ys := [q35]) ha2_6 (Ls.cons (c := [_, _, _, _, _, _, _, _, _, _, _, _]) rfl (VersionR.of hp35_0 (hl35_0 0 (by decide)) (hl35_0 1 (by decide)) (hl35_0 2 (by decide)) (hl35_0 3 (by decide)) (hl35_0 4 (by decide)) (hl35_0 5 (by decide)) (hl35_0 6 (by decide)) (hl35_0 7 (by decide)) (hl35_0 8 (by decide)) (hl35_0 9 (by decide))) .nil) hl37) (allOne_cons rfl (allOne_cons hp35_0.one (allOne_cons (hl35_0 0 (by decide)).one (allOne_cons (hl35_0 1 (by decide)).one (allOne_cons (hl35_0 2 (by decide)).one (allOne_cons (hl35_0 3 (by decide)).one (allOne_cons (hl35_0 4 (by decide)).one (allOne_cons (hl35_0 5 (by decide)).one (allOne_cons (hl35_0 6 (by decide)).one (allOne_cons (hl35_0 7 (by decide)).one (allOne_cons (hl35_0 8 (by decide)).one (allOne_cons (hl35_0 9 (by decide)).one rfl))))))))))))) fun v37 => .as (.tl (.tl .hd)) fun av37 => ?_
          have ha37 := AccR.app (R := VersionR) (g := g35) (ys := [q35]) ha2_6 (Ls.cons (c := [_, _, _, _, _, _, _, _, _, _, _, _]) rfl (VersionR.of hp35_0 (hl35_0 0 (by decide)) (hl35_0 1 (by decide)) (hl35_0 2 (by decide)) (hl35_0 3 (by decide)) (hl35_0 4 (by decide)) (hl35_0 5 (by decide)) (hl35_0 6 (by decide)) (hl35_0 7 (by decide)) (hl35_0 8 (by decide)) (hl35_0 9 (by decide))) .nil) hl37 av37
          have lha37 := ha37.le
          refine .p .no rfl (.fa rfl f_24_1) rfl rfl rfl <| .st (cs' := [_, _]) .no rfl rfl rfl rfl ha37.any ha37.cells s_22 rfl rfl (.tl (.tl (.tl (.tl (.tl .hd))))) rfl (allOne_cons ha37.one rfl) (.all (allA_c rfl (allA_c rfl rfl))) <| .nil <| bq_n <| sq_n <| .region rfl <| .p .no rfl (.inc1 rfl rfl (by omega)) <| .m rfl rfl <| .nil <| loopQ_n (L_code_Amend_2.mk (k2_1 + 1) s2_2 _ _ (d2_3 ++ [q35])) ⟨rfl, rfl, rfl, rfl, rfl, trivial⟩ (.cons _ (.cons _ (List.Sublist.refl _))) hle35 ?_ ?_
          · exact ⟨ha37, hF⟩
          · simp only; omega
        · have kh32 := dF h32
          have em2 : (((q28 ++ [p1]).length : Int) - (k2_1 : Int)).toNat = 0 := by omega
          rw [em2, F_code_Amend_l2] at hF
          obtain rfl := sI hF
          have hF := hG2
          refine .exit <| sq_e <| lq_e <| bq_x rfl <| sq_n <| .seq <| .region rfl <| .ld .no rfl (.a (vs := [_, _]) rfl (.tl (.tl (.tl .hd))) a_24 s_24 rfl rfl) <| .st (cs' := [_, _]) .no rfl rfl rfl rfl s_24 rfl rfl (.tl (.tl (.tl (.tl (.tl .hd))))) rfl (allOne_cons rfl (allOne_cons ha2_6.one rfl)) <| .z rfl rfl <| .nil <| sq_n <| .see (seeFreeze VersionR.mono .hd (by decide) ha2_6) ?_
          rintro gz38 ⟨hle38, hz38⟩
          replace hcq0 := hcq0.mono VersionR.mono hle38
          replace hpq1 := hpq1.mono PutR.mono hle38
          replace hlq1 := fun k hk => (hlq1 k hk).mono PieceR.mono hle38
          replace h1_4_0 := h1_4_0.mono VersionR.mono hle38
          replace h3_4_0 := h3_4_0.mono PutR.mono hle38
          replace h4_4_0 := h4_4_0.mono PieceR.mono hle38
          replace h5_4_0 := h5_4_0.mono PieceR.mono hle38
          replace h6_4_0 := h6_4_0.mono PieceR.mono hle38
          replace h7_4_0 := h7_4_0.mono PieceR.mono hle38
          replace h8_4_0 := h8_4_0.mono PieceR.mono hle38
          replace h9_4_0 := h9_4_0.mono PieceR.mono hle38
          replace h10_4_0 := h10_4_0.mono PieceR.mono hle38
          replace h11_4_0 := h11_4_0.mono PieceR.mono hle38
          replace h12_4_0 := h12_4_0.mono PieceR.mono hle38
          replace h13_4_0 := h13_4_0.mono PieceR.mono hle38
          replace hq23 := hq23.mono hle38
          replace hp23 := hp23.mono PutR.mono hle38
          replace hl23 := fun k hk => (hl23 k hk).mono PieceR.mono hle38
          replace h1_24_0 := h1_24_0.mono VersionR.mono hle38
          replace h3_24_0 := h3_24_0.mono PutR.mono hle38
          replace h4_24_0 := h4_24_0.mono PieceR.mono hle38
          replace h5_24_0 := h5_24_0.mono PieceR.mono hle38
          replace h6_24_0 := h6_24_0.mono PieceR.mono hle38
          replace h7_24_0 := h7_24_0.mono PieceR.mono hle38
          replace h8_24_0 := h8_24_0.mono PieceR.mono hle38
          replace h9_24_0 := h9_24_0.mono PieceR.mono hle38
          replace h10_24_0 := h10_24_0.mono PieceR.mono hle38
          replace h11_24_0 := h11_24_0.mono PieceR.mono hle38
          replace h12_24_0 := h12_24_0.mono PieceR.mono hle38
          replace h13_24_0 := h13_24_0.mono PieceR.mono hle38
          replace h1_25_0 := h1_25_0.mono VersionR.mono hle38
          replace h3_25_0 := h3_25_0.mono PutR.mono hle38
          replace h4_25_0 := h4_25_0.mono PieceR.mono hle38
          replace h5_25_0 := h5_25_0.mono PieceR.mono hle38
          replace h6_25_0 := h6_25_0.mono PieceR.mono hle38
          replace h7_25_0 := h7_25_0.mono PieceR.mono hle38
          replace h8_25_0 := h8_25_0.mono PieceR.mono hle38
          replace h9_25_0 := h9_25_0.mono PieceR.mono hle38
          replace h10_25_0 := h10_25_0.mono PieceR.mono hle38
          replace h11_25_0 := h11_25_0.mono PieceR.mono hle38
          replace h12_25_0 := h12_25_0.mono PieceR.mono hle38
          replace h13_25_0 := h13_25_0.mono PieceR.mono hle38
          replace ha28_0 := ha28_0.mono VersionR.mono hle38
          replace ha30 := ha30.mono VersionR.mono hle38
          replace ha2_6 := ha2_6.mono VersionR.mono hle38
          refine .ret ?_
          obtain rfl := sI hF
          refine retQ_r (((((hle4.trans hle24).trans hle25).trans hle28).trans hle2).trans hle38) (.cell (.a (vs := [_, _]) rfl (.tl (.tl (.tl (.tl .hd)))) a_24 s_24 rfl rfl) (.tmp rfl .nil)) rfl ?_
          exact ⟨_, rfl, ⟨_, rfl, hz38⟩⟩
def F_l04_CodeVersions (p0 : Code) (p1 : Version) (p2 : Int) : Option (Bool) := ((F_code_InForce p0 p2).bind fun q3 => ((F_r04_InForce p0 p2).bind fun q4 => ((F_code_Amend p0 p1).bind fun q5 => ((F_r04_Amend p0 p1).bind fun q7 => (cond (decide (q3.1 = q4.1)) ((cond (decide (q3.2 = q4.2)) (((F_r04_SameCode q5.1 q7.1).bind fun q11 => (cond q11 ((cond (decide (q5.2 = q7.2)) (some true) (some false))) (some false)))) (some false))) (some false))))))
set_option maxHeartbeats 1000000 in
theorem F_l04_CodeVersions_ok (p0 : Code) (p1 : Version) (p2 : Int) (cs0 cs1 : List V) (g : G) (h0 : CodeR g cs0 p0) (h1 : VersionR g cs1 p1) (r : Bool) (hF : F_l04_CodeVersions p0 p1 p2 = some r) : Fv Tryz.prog natS (.f 10 [] []) [.agg cs0, .agg cs1, .i .i64 p2] g (.b r) := by
  refine Fw.fv ?_
  unfold F_l04_CodeVersions at hF
  obtain ⟨vq0, rfl, hcq0⟩ := h0
  have lh0_1 := hcq0.1
  obtain ⟨pq1, lvq1, rfl, hpq1, hlq1⟩ := h1
  have lh1_1 := hpq1.1
  have lh1_2 := (hlq1 0 (by decide)).1
  have lh1_3 := (hlq1 1 (by decide)).1
  have lh1_4 := (hlq1 2 (by decide)).1
  have lh1_5 := (hlq1 3 (by decide)).1
  have lh1_6 := (hlq1 4 (by decide)).1
  have lh1_7 := (hlq1 5 (by decide)).1
  have lh1_8 := (hlq1 6 (by decide)).1
  have lh1_9 := (hlq1 7 (by decide)).1
  have lh1_10 := (hlq1 8 (by decide)).1
  have lh1_11 := (hlq1 9 (by decide)).1
  refine Fw.enter (N := 60) (al := [(2, _), (1, _), (0, _)]) Tryz.func10 (by kernel_rfl) (by kernel_rfl) rfl rfl rfl rfl ?_
  intro B
  refine .seq <| .region rfl <| .box .no rfl rfl rfl rfl fun b1 => .box .no rfl rfl rfl rfl fun b2 => .z rfl rfl <| .nil <| sq_n <| .seq <| .region rfl <| .ld .no rfl (.a (vs := [_, _]) rfl (.tl .hd) a_24 s_24 rfl rfl) <| .m rfl rfl ?_
  obtain ⟨q3, hq3, hF⟩ := bS hF
  refine .callV .no rfl rfl rfl (F_code_InForce_ok p0 p2 _ _ ⟨_, rfl, hcq0⟩ _ hq3) <| .m rfl rfl <| .p .no rfl (.ext rfl rfl) <| .p .no rfl (.ext rfl rfl) <| .z rfl rfl <| .z rfl rfl <| .nil <| sq_n <| .seq <| .region rfl <| .ld .no rfl (.a (vs := [_, _]) rfl (.tl .hd) a_24 s_24 rfl rfl) <| .m rfl rfl ?_
  obtain ⟨q4, hq4, hF⟩ := bS hF
  refine .callV .no rfl rfl rfl (F_r04_InForce_ok p0 p2 _ _ ⟨_, rfl, hcq0⟩ _ hq4) <| .m rfl rfl <| .p .no rfl (.ext rfl rfl) <| .p .no rfl (.ext rfl rfl) <| .z rfl rfl <| .z rfl rfl <| .nil <| sq_n <| .seq <| .region rfl <| .ld .no rfl (.a (vs := [_, _]) rfl (.tl .hd) a_24 s_24 rfl rfl) <| .ld .no rfl (.a (vs := [_, _, _, _, _, _, _, _, _, _, _, _]) rfl .hd a_97 s_97 rfl rfl) ?_
  obtain ⟨q5, hq5, hF⟩ := bS hF
  refine .call .no rfl rfl rfl (F_code_Amend_ok p0 p1 _ _ _ ⟨_, rfl, hcq0⟩ ⟨_, _, rfl, hpq1, hlq1⟩ _ hq5) ?_
  rintro g5 ml5 r5 hle5 ⟨rfl, cs5_0, rfl, ⟨v5_0, rfl, hc5_0⟩⟩
  replace hcq0 := hcq0.mono VersionR.mono hle5
  replace hpq1 := hpq1.mono PutR.mono hle5
  replace hlq1 := fun k hk => (hlq1 k hk).mono PieceR.mono hle5
  have lh5_0_1 := hc5_0.1
  refine .m rfl rfl <| .p .no rfl (.ext rfl rfl) <| .p .no rfl (.ext rfl rfl) <| .alloc .no rfl z_24 fun b6 => .st (cs' := [_, _]) .no rfl rfl rfl rfl s_24 rfl rfl .hd rfl (allOne_cons rfl (allOne_cons hc5_0.one rfl)) <| .z rfl rfl <| .nil <| sq_n <| .seq <| .region rfl <| .ld .no rfl (.a (vs := [_, _]) rfl (.tl (.tl .hd)) a_24 s_24 rfl rfl) <| .ld .no rfl (.a (vs := [_, _, _, _, _, _, _, _, _, _, _, _]) rfl (.tl .hd) a_97 s_97 rfl rfl) ?_
  obtain ⟨q7, hq7, hF⟩ := bS hF
  refine .call .no rfl rfl rfl (F_r04_Amend_ok p0 p1 _ _ _ ⟨_, rfl, hcq0⟩ ⟨_, _, rfl, hpq1, hlq1⟩ _ hq7) ?_
  rintro g7 ml7 r7 hle7 ⟨rfl, cs7_0, rfl, ⟨v7_0, rfl, hc7_0⟩⟩
  replace hcq0 := hcq0.mono VersionR.mono hle7
  replace hpq1 := hpq1.mono PutR.mono hle7
  replace hlq1 := fun k hk => (hlq1 k hk).mono PieceR.mono hle7
  replace hc5_0 := hc5_0.mono VersionR.mono hle7
  have lh7_0_1 := hc7_0.1
  refine .m rfl rfl <| .p .no rfl (.ext rfl rfl) <| .p .no rfl (.ext rfl rfl) <| .alloc .no rfl z_24 fun b8 => .st (cs' := [_, _]) .no rfl rfl rfl rfl s_24 rfl rfl .hd rfl (allOne_cons rfl (allOne_cons hc7_0.one rfl)) <| .z rfl rfl <| .nil <| sq_n <| .seq <| .region rfl <| .m rfl rfl <| .m rfl rfl <| .b rfl rfl rfl rfl <| .m rfl rfl <| .split (t := 42) rfl (fun h9 => ?_) (fun h9 => ?_)
  · have kh9 := dT h9
    have hF := cT h9 hF
    refine .p (.yes rfl rfl h9) rfl (.move rfl) <| .p (.yes rfl rfl h9) rfl (.move rfl) <| .p (.yes rfl rfl h9) rfl (.bin rfl rfl rfl) <| .p .no rfl (.pickT rfl h9 rfl) <| .m rfl rfl <| .split (t := 47) rfl (fun h10 => ?_) (fun h10 => ?_)
    · have kh10 := dT h10
      have hF := cT h10 hF
      refine .ld (.yes rfl rfl h10) rfl (.a (vs := [_, _]) rfl (.tl .hd) a_24 s_24 rfl rfl) <| .ld (.yes rfl rfl h10) rfl (.a (vs := [_, _]) rfl .hd a_24 s_24 rfl rfl) ?_
      obtain ⟨q11, hq11, hF⟩ := bS hF
      refine .callV (.yes rfl rfl h10) rfl rfl rfl (F_r04_SameCode_ok q5.1 q7.1 _ _ _ ⟨_, rfl, hc5_0⟩ ⟨_, rfl, hc7_0⟩ _ hq11) <| .p .no rfl (.pickT rfl h10 rfl) <| .m rfl rfl <| .split (t := 52) rfl (fun h12 => ?_) (fun h12 => ?_)
      · have kh12 := h12
        have hF := cT h12 hF
        refine .p (.yes rfl rfl h12) rfl (.move rfl) <| .p (.yes rfl rfl h12) rfl (.move rfl) <| .p (.yes rfl rfl h12) rfl (.bin rfl rfl rfl) <| .p .no rfl (.pickT rfl h12 rfl) <| .m rfl rfl <| .split (t := 57) rfl (fun h13 => ?_) (fun h13 => ?_)
        · have kh13 := dT h13
          have hF := cT h13 hF
          refine .callV (.yes rfl rfl h13) rfl rfl rfl (sane_ok _) <| .p .no rfl (.pickT rfl h13 rfl) <| .z rfl rfl <| .nil <| sq_n <| .ret ?_
          obtain rfl := sI hF
          refine retQ_r (hle5.trans hle7) (.tmp rfl .nil) rfl ?_
          rfl
        · have kh13 := dF h13
          have hF := cF h13 hF
          refine .skip (.yes rfl rfl h13) rfl <| .p .no rfl (.pickF rfl h13 rfl) <| .z rfl rfl <| .nil <| sq_n <| .ret ?_
          obtain rfl := sI hF
          refine retQ_r (hle5.trans hle7) (.tmp rfl .nil) rfl ?_
          rfl
      · have kh12 := h12
        have hF := cF h12 hF
        refine .skip (.yes rfl rfl h12) rfl <| .skip (.yes rfl rfl h12) rfl <| .skip (.yes rfl rfl h12) rfl <| .p .no rfl (.pickF rfl h12 rfl) <| .m rfl rfl <| .skip (.yes rfl rfl rfl) rfl <| .p .no rfl (.pickF rfl rfl rfl) <| .z rfl rfl <| .nil <| sq_n <| .ret ?_
        obtain rfl := sI hF
        refine retQ_r (hle5.trans hle7) (.tmp rfl .nil) rfl ?_
        rfl
    · have kh10 := dF h10
      have hF := cF h10 hF
      refine .skip (.yes rfl rfl h10) rfl <| .skip (.yes rfl rfl h10) rfl <| .skip (.yes rfl rfl h10) rfl <| .p .no rfl (.pickF rfl h10 rfl) <| .m rfl rfl <| .skip (.yes rfl rfl rfl) rfl <| .skip (.yes rfl rfl rfl) rfl <| .skip (.yes rfl rfl rfl) rfl <| .p .no rfl (.pickF rfl rfl rfl) <| .m rfl rfl <| .skip (.yes rfl rfl rfl) rfl <| .p .no rfl (.pickF rfl rfl rfl) <| .z rfl rfl <| .nil <| sq_n <| .ret ?_
      obtain rfl := sI hF
      refine retQ_r (hle5.trans hle7) (.tmp rfl .nil) rfl ?_
      rfl
  · have kh9 := dF h9
    have hF := cF h9 hF
    refine .skip (.yes rfl rfl h9) rfl <| .skip (.yes rfl rfl h9) rfl <| .skip (.yes rfl rfl h9) rfl <| .p .no rfl (.pickF rfl h9 rfl) <| .m rfl rfl <| .skip (.yes rfl rfl rfl) rfl <| .skip (.yes rfl rfl rfl) rfl <| .skip (.yes rfl rfl rfl) rfl <| .p .no rfl (.pickF rfl rfl rfl) <| .m rfl rfl <| .skip (.yes rfl rfl rfl) rfl <| .skip (.yes rfl rfl rfl) rfl <| .skip (.yes rfl rfl rfl) rfl <| .p .no rfl (.pickF rfl rfl rfl) <| .m rfl rfl <| .skip (.yes rfl rfl rfl) rfl <| .p .no rfl (.pickF rfl rfl rfl) <| .z rfl rfl <| .nil <| sq_n <| .ret ?_
    obtain rfl := sI hF
    refine retQ_r (hle5.trans hle7) (.tmp rfl .nil) rfl ?_
    rfl
end Go.Proofs.YtjflgemfeofciaaGreatDoor
