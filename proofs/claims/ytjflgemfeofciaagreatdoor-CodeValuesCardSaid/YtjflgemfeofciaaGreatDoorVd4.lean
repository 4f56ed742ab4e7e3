import Derived.Test.YtjflgemfeofciaaGreatDoorVc4
/- Layer 4: Tonnage. -/
namespace Go.Proofs.YtjflgemfeofciaaGreatDoor
open Go Go.Ev
set_option linter.unusedVariables false
set_option linter.unusedSimpArgs false
set_option maxRecDepth 10000
def okX (x0 x1 x2 x3 x4 : Int) : Bool := within x0 0 20000000000 && (within x1 0 20000000000 && (within x2 0 20000000000 && (within x3 0 20000000000 && within x4 0 20000000000)))
def tonE (c : Code) (ver fo x0 x1 x2 x3 x4 : Int) : Int := failE (byE (atE c.err c ver) fo) (!okX x0 x1 x2 x3 x4) 1
def tonR (f : List Piece → Int → Int) (c : Code) (ver fo x0 x1 x2 x3 x4 : Int) : Int := if tonE c ver fo x0 x1 x2 x3 x4 = 0 then downI (tonS f (c.vs.getD ver.toNat .none) fo.toNat x0 x1 x2 x3 x4) else 0
theorem tonE_zero {c : Code} {ver fo x0 x1 x2 x3 x4 : Int} (h : tonE c ver fo x0 x1 x2 x3 x4 = 0) : atE c.err c ver = 0 ∧ (fo = 0 ∨ fo = 1) ∧ okX x0 x1 x2 x3 x4 = true := by
  obtain ⟨h1, h2⟩ := failE_zero (by decide) h
  obtain ⟨h3, h4⟩ := byE_zero h1
  exact ⟨h3, h4, by simpa using h2⟩
theorem tonR_no {f : List Piece → Int → Int} {c : Code} {ver fo x0 x1 x2 x3 x4 : Int} (h : ¬ tonE c ver fo x0 x1 x2 x3 x4 = 0) : tonR f c ver fo x0 x1 x2 x3 x4 = 0 := if_neg h
theorem tonE_a {c : Code} {ver fo x0 x1 x2 x3 x4 : Int} {b : Bool} (h : b = !okX x0 x1 x2 x3 x4) : failE (byE (atE c.err c ver) fo) b 1 = tonE c ver fo x0 x1 x2 x3 x4 := by rw [h]; rfl
theorem ton_leaf {f : List Piece → Int → Int} {c : Code} {ver fo x0 x1 x2 x3 x4 : Int} (hz : tonE c ver fo x0 x1 x2 x3 x4 = 0) : downI (tonS f (atV c.err c ver .none) fo.toNat x0 x1 x2 x3 x4) = tonR f c ver fo x0 x1 x2 x3 x4 := by
  unfold tonR
  rw [if_pos hz, atV_ln (tonE_zero hz).1]
theorem Tonnage_ok (c : Code) (ver fo x0 x1 x2 x3 x4 : Int) (cs : List V) (g : G) (h : CodeR g cs c) : Fv Tryz.prog natS (.f 30 [] []) [.agg cs, .i .i64 ver, .i .i64 fo, .agg [.i .i64 x0, .i .i64 x1, .i .i64 x2, .i .i64 x3, .i .i64 x4]] g (.tup [.i .i64 (tonR closV c ver fo x0 x1 x2 x3 x4), .i .i64 (tonE c ver fo x0 x1 x2 x3 x4)]) := by
  obtain ⟨v, rfl, h⟩ := h
  refine Fw.fv ?_
  refine Fw.enter (N := 49) (al := [(3, _), (2, _), (1, _), (0, _)]) Tryz.func30 (by kernel_rfl) (by kernel_rfl) rfl rfl rfl rfl ?_
  intro B
  refine Wc.seq ?_
  refine Wc.region rfl ?_
  refine Wo.box .no rfl rfl rfl rfl (fun b1 => ?_)
  refine Wo.box .no rfl rfl rfl rfl (fun b2 => ?_)
  refine Wo.p .no rfl (.assign rfl) ?_
  refine Wo.p .no rfl (.assign rfl) ?_
  refine Wo.nil (sq_n ?_)
  refine Wc.seq ?_
  refine Wc.region rfl ?_
  refine Wo.p .no rfl (.assign rfl) ?_
  refine Wo.nil (sq_n ?_)
  refine Wc.seq ?_
  refine Wc.seq ?_
  refine Wc.region rfl ?_
  refine Wo.ld .no rfl (.a (vs := [_, _, _, _, _]) rfl .hd a_38 s_38 rfl rfl) ?_
  refine Wo.p .no rfl (.move rfl) ?_
  refine Wo.nil (sq_n ?_)
  refine Wc.block ?_
  refine Wc.unroll ?_
  refine Wc.seq ?_
  refine Wc.region rfl ?_
  refine Wo.p .no rfl (.bin rfl rfl rfl) ?_
  refine Wo.nil (sq_n ?_)
  refine Wc.seq ?_
  refine Wc.condT rfl (by decide) ?_
  refine Wc.skip (sq_n ?_)
  refine Wc.seq ?_
  refine Wc.block ?_
  refine Wc.seq ?_
  refine Wc.region rfl ?_
  refine Wo.p .no rfl (.ixv (j := 0) rfl rfl ar_38 s_3 (by decide) (by rfl)) ?_
  refine Wo.p .no rfl (.assign rfl) ?_
  refine Wo.nil (sq_n ?_)
  refine Wc.region rfl ?_
  refine Wo.p .no rfl (.move rfl) ?_
  refine Wo.p .no rfl (.move rfl) ?_
  refine Wo.p (.yes rfl rfl rfl) rfl (.move rfl) ?_
  refine Wo.callV (.yes rfl rfl rfl) rfl rfl rfl (isWithin_ok _ _ _ _) ?_
  refine Wo.p (.yes rfl rfl rfl) rfl (.not rfl) ?_
  refine Wo.p .no rfl (.pickF rfl rfl rfl) ?_
  refine Wo.p .no rfl (.assign rfl) ?_
  refine Wo.nil (bq_n (sq_n ?_))
  refine Wc.region rfl ?_
  refine Wo.p .no rfl (.addL (c := 1) rfl rfl rfl (by decide)) ?_
  refine Wo.p .no rfl (.move rfl) ?_
  refine Wo.nil (sq_n ?_)
  refine Wc.unroll ?_
  refine Wc.seq ?_
  refine Wc.region rfl ?_
  refine Wo.p .no rfl (.bin rfl rfl rfl) ?_
  refine Wo.nil (sq_n ?_)
  refine Wc.seq ?_
  refine Wc.condT rfl (by decide) ?_
  refine Wc.skip (sq_n ?_)
  refine Wc.seq ?_
  refine Wc.block ?_
  refine Wc.seq ?_
  refine Wc.region rfl ?_
  refine Wo.p .no rfl (.ixv (j := 1) rfl rfl ar_38 s_3 (by decide) (by rfl)) ?_
  refine Wo.p .no rfl (.assign rfl) ?_
  refine Wo.nil (sq_n ?_)
  refine Wc.region rfl ?_
  refine Wo.p .no rfl (.move rfl) ?_
  refine Wo.p .no rfl (.move rfl) ?_
  refine Wo.split (t := 19) rfl (fun h3 => ?_) (fun h3 => ?_)
  · have kh3 := h3; (try simp only [Bool.not_eq_true', Bool.not_eq_false', Bool.not_eq_true, Bool.not_eq_false, decide_eq_true_eq, decide_eq_false_iff_not, Int.not_lt, Int.not_le, Bool.not_eq_eq_eq_not, Bool.not_true, Bool.not_false] at kh3)
    refine Wo.skip (.yes rfl rfl h3) rfl ?_
    refine Wo.skip (.yes rfl rfl h3) rfl ?_
    refine Wo.skip (.yes rfl rfl h3) rfl ?_
    refine Wo.p .no rfl (.pickT rfl h3 rfl) ?_
    refine Wo.p .no rfl (.assign rfl) ?_
    refine Wo.nil (bq_n (sq_n ?_))
    refine Wc.region rfl ?_
    refine Wo.p .no rfl (.addL (c := 2) rfl rfl rfl (by decide)) ?_
    refine Wo.p .no rfl (.move rfl) ?_
    refine Wo.nil (sq_n ?_)
    refine Wc.unroll ?_
    refine Wc.seq ?_
    refine Wc.region rfl ?_
    refine Wo.p .no rfl (.bin rfl rfl rfl) ?_
    refine Wo.nil (sq_n ?_)
    refine Wc.seq ?_
    refine Wc.condT rfl (by decide) ?_
    refine Wc.skip (sq_n ?_)
    refine Wc.seq ?_
    refine Wc.block ?_
    refine Wc.seq ?_
    refine Wc.region rfl ?_
    refine Wo.p .no rfl (.ixv (j := 2) rfl rfl ar_38 s_3 (by decide) (by rfl)) ?_
    refine Wo.p .no rfl (.assign rfl) ?_
    refine Wo.nil (sq_n ?_)
    refine Wc.region rfl ?_
    refine Wo.p .no rfl (.move rfl) ?_
    refine Wo.p .no rfl (.move rfl) ?_
    refine Wo.skip (.yes rfl rfl rfl) rfl ?_
    refine Wo.skip (.yes rfl rfl rfl) rfl ?_
    refine Wo.skip (.yes rfl rfl rfl) rfl ?_
    refine Wo.p .no rfl (.pickT rfl rfl rfl) ?_
    refine Wo.p .no rfl (.assign rfl) ?_
    refine Wo.nil (bq_n (sq_n ?_))
    refine Wc.region rfl ?_
    refine Wo.p .no rfl (.addL (c := 3) rfl rfl rfl (by decide)) ?_
    refine Wo.p .no rfl (.move rfl) ?_
    refine Wo.nil (sq_n ?_)
    refine Wc.unroll ?_
    refine Wc.seq ?_
    refine Wc.region rfl ?_
    refine Wo.p .no rfl (.bin rfl rfl rfl) ?_
    refine Wo.nil (sq_n ?_)
    refine Wc.seq ?_
    refine Wc.condT rfl (by decide) ?_
    refine Wc.skip (sq_n ?_)
    refine Wc.seq ?_
    refine Wc.block ?_
    refine Wc.seq ?_
    refine Wc.region rfl ?_
    refine Wo.p .no rfl (.ixv (j := 3) rfl rfl ar_38 s_3 (by decide) (by rfl)) ?_
    refine Wo.p .no rfl (.assign rfl) ?_
    refine Wo.nil (sq_n ?_)
    refine Wc.region rfl ?_
    refine Wo.p .no rfl (.move rfl) ?_
    refine Wo.p .no rfl (.move rfl) ?_
    refine Wo.skip (.yes rfl rfl rfl) rfl ?_
    refine Wo.skip (.yes rfl rfl rfl) rfl ?_
    refine Wo.skip (.yes rfl rfl rfl) rfl ?_
    refine Wo.p .no rfl (.pickT rfl rfl rfl) ?_
    refine Wo.p .no rfl (.assign rfl) ?_
    refine Wo.nil (bq_n (sq_n ?_))
    refine Wc.region rfl ?_
    refine Wo.p .no rfl (.addL (c := 4) rfl rfl rfl (by decide)) ?_
    refine Wo.p .no rfl (.move rfl) ?_
    refine Wo.nil (sq_n ?_)
    refine Wc.unroll ?_
    refine Wc.seq ?_
    refine Wc.region rfl ?_
    refine Wo.p .no rfl (.bin rfl rfl rfl) ?_
    refine Wo.nil (sq_n ?_)
    refine Wc.seq ?_
    refine Wc.condT rfl (by decide) ?_
    refine Wc.skip (sq_n ?_)
    refine Wc.seq ?_
    refine Wc.block ?_
    refine Wc.seq ?_
    refine Wc.region rfl ?_
    refine Wo.p .no rfl (.ixv (j := 4) rfl rfl ar_38 s_3 (by decide) (by rfl)) ?_
    refine Wo.p .no rfl (.assign rfl) ?_
    refine Wo.nil (sq_n ?_)
    refine Wc.region rfl ?_
    refine Wo.p .no rfl (.move rfl) ?_
    refine Wo.p .no rfl (.move rfl) ?_
    refine Wo.skip (.yes rfl rfl rfl) rfl ?_
    refine Wo.skip (.yes rfl rfl rfl) rfl ?_
    refine Wo.skip (.yes rfl rfl rfl) rfl ?_
    refine Wo.p .no rfl (.pickT rfl rfl rfl) ?_
    refine Wo.p .no rfl (.assign rfl) ?_
    refine Wo.nil (bq_n (sq_n ?_))
    refine Wc.region rfl ?_
    refine Wo.p .no rfl (.addL (c := 5) rfl rfl rfl (by decide)) ?_
    refine Wo.p .no rfl (.move rfl) ?_
    refine Wo.nil (sq_n ?_)
    refine Wc.unroll ?_
    refine Wc.seq ?_
    refine Wc.region rfl ?_
    refine Wo.p .no rfl (.bin rfl rfl rfl) ?_
    refine Wo.nil (sq_n ?_)
    refine Wc.seq ?_
    refine Wc.condF rfl (by decide) ?_
    refine Wc.exit (sq_e (sq_e (bq_x rfl (sq_n ?_))))
    refine Wc.seq ?_
    refine Wc.region rfl ?_
    refine Wo.ld .no rfl (.a (vs := [_, _]) rfl (.tl .hd) a_24 s_24 rfl rfl) ?_
    refine Wo.call .no rfl rfl rfl (of_ok _ _ _ ⟨_, rfl, h⟩) ?_
    rintro g4 ml4 r4 hle4 ⟨b4, cs4, rfl, rfl, rfl, vv4, p4, lv4, rfl, hv4, hp4, hl4⟩
    replace h := h.mono VersionR.mono hle4
    refine Wo.p .no rfl (.move rfl) ?_
    refine Wo.callT .no rfl rfl rfl .hd (at_ok _ _ _ _ _ _ _ _ ⟨_, _, _, rfl, hv4, hp4, hl4⟩) ?_
    rintro g5 ml5 r5 hle5 ⟨cs5, rfl, rfl, rfl, vv5, p5, lv5, rfl, hv5, hp5, hl5⟩
    replace h := h.mono VersionR.mono hle5
    replace hv4 := hv4.mono VersionR.mono hle5
    replace hp4 := hp4.mono PutR.mono hle5
    replace hl4 := fun k hk => (hl4 k hk).mono PieceR.mono hle5
    refine Wo.p .no rfl (.move rfl) ?_
    refine Wo.callR .no rfl rfl rfl .hd (by_ok _ _ _ _ _ _ _ _ _ _ _ _ _ _ _ _ _ _ _) ?_
    refine Wo.p .no rfl (.move rfl) ?_
    refine Wo.callR .no rfl rfl rfl .hd (fail_ok _ _ _ _ _ _ _ _ _ _ _ _ _ _ _ _ _ _ _ _) ?_
    refine Wo.p .no rfl (.assign rfl) ?_
    refine Wo.nil (sq_n ?_)
    refine Wc.seq ?_
    refine Wc.seq ?_
    refine Wc.region rfl ?_
    refine Wo.p .no rfl (.move rfl) ?_
    refine Wo.p .no rfl (.nil rfl) ?_
    refine Wo.p .no rfl (.fa rfl f_132_3) ?_
    refine Wo.ld .no rfl (.s rfl .hd a_30 rfl) ?_
    refine Wo.p .no rfl (.bin rfl rfl rfl) ?_
    refine Wo.nil (sq_n ?_)
    refine Wc.cond rfl (fun h6 => ?_) (fun h6 => ?_)
    · have kh6 := h6; (try simp only [Bool.not_eq_true', Bool.not_eq_false', Bool.not_eq_true, Bool.not_eq_false, decide_eq_true_eq, decide_eq_false_iff_not, Int.not_lt, Int.not_le, Bool.not_eq_eq_eq_not, Bool.not_true, Bool.not_false] at kh6)
      have ho := fun (b : Bool) (e : b = !okX x0 x1 x2 x3 x4) => tonE_a (c := c) (ver := ver) (fo := fo) e
      have hz : ¬ tonE c ver fo x0 x1 x2 x3 x4 = 0 := fun e => kh6 ((ho _ (by unfold okX; simp only [*]; simp)).trans e)
      refine Wc.seq ?_
      refine Wc.draw (tb := [⟨0, 0, true⟩, ⟨1, 0, true⟩, ⟨3, 0, true⟩, ⟨7, 0, true⟩, ⟨0, 0, false⟩, ⟨31, 0, true⟩]) rfl (by kernel_rfl) (by kernel_rfl) ?_
      refine Wd.p .no rfl (.move rfl) rfl rfl rfl ?_
      refine Wd.p .no rfl (.nil rfl) rfl rfl rfl ?_
      refine Wd.p .no rfl (.fa rfl f_132_3) rfl rfl rfl ?_
      refine Wd.ld (k := 0) .no rfl rfl rfl trivial (.s rfl .hd a_30 rfl) ?_
      refine Wd.p .no rfl (.assign rfl) rfl rfl rfl ?_
      refine Wd.p .no rfl (.assign rfl) rfl rfl rfl ?_
      refine Wd.nil (sq_n ?_)
      refine Wc.ret (sq_r ?_)
      refine retQ_r (hle4.trans hle5) (.tmp rfl (.tmp rfl .nil)) rfl ?_
      first
        | (rw [tonR_no hz, ho _ (by unfold okX; simp only [*]; simp)])
        | (rw [hz, ton_leaf hz])
    · have kh6 := h6; (try simp only [Bool.not_eq_true', Bool.not_eq_false', Bool.not_eq_true, Bool.not_eq_false, decide_eq_true_eq, decide_eq_false_iff_not, Int.not_lt, Int.not_le, Bool.not_eq_eq_eq_not, Bool.not_true, Bool.not_false] at kh6)
      have ho := fun (b : Bool) (e : b = !okX x0 x1 x2 x3 x4) => tonE_a (c := c) (ver := ver) (fo := fo) e
      have hz : tonE c ver fo x0 x1 x2 x3 x4 = 0 := (ho _ (by unfold okX; simp only [*]; simp)).symm.trans kh6
      obtain ⟨hz1, hz2, hz3⟩ := tonE_zero hz
      refine Wc.skip (sq_n ?_)
      refine Wc.seq ?_
      refine Wc.draw (tb := [⟨0, 0, false⟩, ⟨1, 0, false⟩, ⟨3, 0, false⟩, ⟨7, 0, false⟩, ⟨0, 0, false⟩, ⟨0, 0, false⟩, ⟨63, 0, true⟩, ⟨127, 1, true⟩, ⟨255, 1, true⟩]) rfl (by kernel_rfl) (by kernel_rfl) ?_
      refine Wd.p .no rfl (.move rfl) rfl rfl rfl ?_
      refine Wd.p .no rfl (.nil rfl) rfl rfl rfl ?_
      refine Wd.p .no rfl (.fa rfl f_132_1) rfl rfl rfl ?_
      refine Wd.ld (k := 0) .no rfl rfl rfl trivial (.a (vs := [_, _, _, _, _, _, _, _, _, _, _, _]) rfl .hd a_97 s_97 rfl rfl) ?_
      refine Wd.p .no rfl (.move rfl) rfl rfl rfl ?_
      refine Wd.ld (k := 0) .no rfl rfl rfl trivial (.a (vs := [_, _, _, _, _]) rfl (.tl .hd) a_38 s_38 rfl rfl) ?_
      refine Wd.callV .no rfl rfl rfl rfl rfl (tonnage_ok _ _ _ _ _ _ _ _ _ ⟨_, _, rfl, hp5, hl5⟩ hz2) ?_
      refine Wd.p .no rfl (.assign rfl) rfl rfl rfl ?_
      refine Wd.p .no rfl (.assign rfl) rfl rfl rfl ?_
      refine Wd.nil (sq_n ?_)
      refine Wc.ret ?_
      refine retQ_r (hle4.trans hle5) (.tmp rfl (.tmp rfl .nil)) rfl ?_
      first
        | (rw [tonR_no hz, ho _ (by unfold okX; simp only [*]; simp)])
        | (rw [hz, ton_leaf hz])
  · have kh3 := h3; (try simp only [Bool.not_eq_true', Bool.not_eq_false', Bool.not_eq_true, Bool.not_eq_false, decide_eq_true_eq, decide_eq_false_iff_not, Int.not_lt, Int.not_le, Bool.not_eq_eq_eq_not, Bool.not_true, Bool.not_false] at kh3)
    refine Wo.p (.yes rfl rfl h3) rfl (.move rfl) ?_
    refine Wo.callV (.yes rfl rfl h3) rfl rfl rfl (isWithin_ok _ _ _ _) ?_
    refine Wo.p (.yes rfl rfl h3) rfl (.not rfl) ?_
    refine Wo.p .no rfl (.pickF rfl h3 rfl) ?_
    refine Wo.p .no rfl (.assign rfl) ?_
    refine Wo.nil (bq_n (sq_n ?_))
    refine Wc.region rfl ?_
    refine Wo.p .no rfl (.addL (c := 2) rfl rfl rfl (by decide)) ?_
    refine Wo.p .no rfl (.move rfl) ?_
    refine Wo.nil (sq_n ?_)
    refine Wc.unroll ?_
    refine Wc.seq ?_
    refine Wc.region rfl ?_
    refine Wo.p .no rfl (.bin rfl rfl rfl) ?_
    refine Wo.nil (sq_n ?_)
    refine Wc.seq ?_
    refine Wc.condT rfl (by decide) ?_
    refine Wc.skip (sq_n ?_)
    refine Wc.seq ?_
    refine Wc.block ?_
    refine Wc.seq ?_
    refine Wc.region rfl ?_
    refine Wo.p .no rfl (.ixv (j := 2) rfl rfl ar_38 s_3 (by decide) (by rfl)) ?_
    refine Wo.p .no rfl (.assign rfl) ?_
    refine Wo.nil (sq_n ?_)
    refine Wc.region rfl ?_
    refine Wo.p .no rfl (.move rfl) ?_
    refine Wo.p .no rfl (.move rfl) ?_
    refine Wo.split (t := 19) rfl (fun h7 => ?_) (fun h7 => ?_)
    · have kh7 := h7; (try simp only [Bool.not_eq_true', Bool.not_eq_false', Bool.not_eq_true, Bool.not_eq_false, decide_eq_true_eq, decide_eq_false_iff_not, Int.not_lt, Int.not_le, Bool.not_eq_eq_eq_not, Bool.not_true, Bool.not_false] at kh7)
      refine Wo.skip (.yes rfl rfl h7) rfl ?_
      refine Wo.skip (.yes rfl rfl h7) rfl ?_
      refine Wo.skip (.yes rfl rfl h7) rfl ?_
      refine Wo.p .no rfl (.pickT rfl h7 rfl) ?_
      refine Wo.p .no rfl (.assign rfl) ?_
      refine Wo.nil (bq_n (sq_n ?_))
      refine Wc.region rfl ?_
      refine Wo.p .no rfl (.addL (c := 3) rfl rfl rfl (by decide)) ?_
      refine Wo.p .no rfl (.move rfl) ?_
      refine Wo.nil (sq_n ?_)
      refine Wc.unroll ?_
      refine Wc.seq ?_
      refine Wc.region rfl ?_
      refine Wo.p .no rfl (.bin rfl rfl rfl) ?_
      refine Wo.nil (sq_n ?_)
      refine Wc.seq ?_
      refine Wc.condT rfl (by decide) ?_
      refine Wc.skip (sq_n ?_)
      refine Wc.seq ?_
      refine Wc.block ?_
      refine Wc.seq ?_
      refine Wc.region rfl ?_
      refine Wo.p .no rfl (.ixv (j := 3) rfl rfl ar_38 s_3 (by decide) (by rfl)) ?_
      refine Wo.p .no rfl (.assign rfl) ?_
      refine Wo.nil (sq_n ?_)
      refine Wc.region rfl ?_
      refine Wo.p .no rfl (.move rfl) ?_
      refine Wo.p .no rfl (.move rfl) ?_
      refine Wo.skip (.yes rfl rfl rfl) rfl ?_
      refine Wo.skip (.yes rfl rfl rfl) rfl ?_
      refine Wo.skip (.yes rfl rfl rfl) rfl ?_
      refine Wo.p .no rfl (.pickT rfl rfl rfl) ?_
      refine Wo.p .no rfl (.assign rfl) ?_
      refine Wo.nil (bq_n (sq_n ?_))
      refine Wc.region rfl ?_
      refine Wo.p .no rfl (.addL (c := 4) rfl rfl rfl (by decide)) ?_
      refine Wo.p .no rfl (.move rfl) ?_
      refine Wo.nil (sq_n ?_)
      refine Wc.unroll ?_
      refine Wc.seq ?_
      refine Wc.region rfl ?_
      refine Wo.p .no rfl (.bin rfl rfl rfl) ?_
      refine Wo.nil (sq_n ?_)
      refine Wc.seq ?_
      refine Wc.condT rfl (by decide) ?_
      refine Wc.skip (sq_n ?_)
      refine Wc.seq ?_
      refine Wc.block ?_
      refine Wc.seq ?_
      refine Wc.region rfl ?_
      refine Wo.p .no rfl (.ixv (j := 4) rfl rfl ar_38 s_3 (by decide) (by rfl)) ?_
      refine Wo.p .no rfl (.assign rfl) ?_
      refine Wo.nil (sq_n ?_)
      refine Wc.region rfl ?_
      refine Wo.p .no rfl (.move rfl) ?_
      refine Wo.p .no rfl (.move rfl) ?_
      refine Wo.skip (.yes rfl rfl rfl) rfl ?_
      refine Wo.skip (.yes rfl rfl rfl) rfl ?_
      refine Wo.skip (.yes rfl rfl rfl) rfl ?_
      refine Wo.p .no rfl (.pickT rfl rfl rfl) ?_
      refine Wo.p .no rfl (.assign rfl) ?_
      refine Wo.nil (bq_n (sq_n ?_))
      refine Wc.region rfl ?_
      refine Wo.p .no rfl (.addL (c := 5) rfl rfl rfl (by decide)) ?_
      refine Wo.p .no rfl (.move rfl) ?_
      refine Wo.nil (sq_n ?_)
      refine Wc.unroll ?_
      refine Wc.seq ?_
      refine Wc.region rfl ?_
      refine Wo.p .no rfl (.bin rfl rfl rfl) ?_
      refine Wo.nil (sq_n ?_)
      refine Wc.seq ?_
      refine Wc.condF rfl (by decide) ?_
      refine Wc.exit (sq_e (sq_e (bq_x rfl (sq_n ?_))))
      refine Wc.seq ?_
      refine Wc.region rfl ?_
      refine Wo.ld .no rfl (.a (vs := [_, _]) rfl (.tl .hd) a_24 s_24 rfl rfl) ?_
      refine Wo.call .no rfl rfl rfl (of_ok _ _ _ ⟨_, rfl, h⟩) ?_
      rintro g8 ml8 r8 hle8 ⟨b8, cs8, rfl, rfl, rfl, vv8, p8, lv8, rfl, hv8, hp8, hl8⟩
      replace h := h.mono VersionR.mono hle8
      refine Wo.p .no rfl (.move rfl) ?_
      refine Wo.callT .no rfl rfl rfl .hd (at_ok _ _ _ _ _ _ _ _ ⟨_, _, _, rfl, hv8, hp8, hl8⟩) ?_
      rintro g9 ml9 r9 hle9 ⟨cs9, rfl, rfl, rfl, vv9, p9, lv9, rfl, hv9, hp9, hl9⟩
      replace h := h.mono VersionR.mono hle9
      replace hv8 := hv8.mono VersionR.mono hle9
      replace hp8 := hp8.mono PutR.mono hle9
      replace hl8 := fun k hk => (hl8 k hk).mono PieceR.mono hle9
      refine Wo.p .no rfl (.move rfl) ?_
      refine Wo.callR .no rfl rfl rfl .hd (by_ok _ _ _ _ _ _ _ _ _ _ _ _ _ _ _ _ _ _ _) ?_
      refine Wo.p .no rfl (.move rfl) ?_
      refine Wo.callR .no rfl rfl rfl .hd (fail_ok _ _ _ _ _ _ _ _ _ _ _ _ _ _ _ _ _ _ _ _) ?_
      refine Wo.p .no rfl (.assign rfl) ?_
      refine Wo.nil (sq_n ?_)
      refine Wc.seq ?_
      refine Wc.seq ?_
      refine Wc.region rfl ?_
      refine Wo.p .no rfl (.move rfl) ?_
      refine Wo.p .no rfl (.nil rfl) ?_
      refine Wo.p .no rfl (.fa rfl f_132_3) ?_
      refine Wo.ld .no rfl (.s rfl .hd a_30 rfl) ?_
      refine Wo.p .no rfl (.bin rfl rfl rfl) ?_
      refine Wo.nil (sq_n ?_)
      refine Wc.cond rfl (fun h10 => ?_) (fun h10 => ?_)
      · have kh10 := h10; (try simp only [Bool.not_eq_true', Bool.not_eq_false', Bool.not_eq_true, Bool.not_eq_false, decide_eq_true_eq, decide_eq_false_iff_not, Int.not_lt, Int.not_le, Bool.not_eq_eq_eq_not, Bool.not_true, Bool.not_false] at kh10)
        have ho := fun (b : Bool) (e : b = !okX x0 x1 x2 x3 x4) => tonE_a (c := c) (ver := ver) (fo := fo) e
        have hz : ¬ tonE c ver fo x0 x1 x2 x3 x4 = 0 := fun e => kh10 ((ho _ (by unfold okX; simp only [*]; simp)).trans e)
        refine Wc.seq ?_
        refine Wc.draw (tb := [⟨0, 0, true⟩, ⟨1, 0, true⟩, ⟨3, 0, true⟩, ⟨7, 0, true⟩, ⟨0, 0, false⟩, ⟨31, 0, true⟩]) rfl (by kernel_rfl) (by kernel_rfl) ?_
        refine Wd.p .no rfl (.move rfl) rfl rfl rfl ?_
        refine Wd.p .no rfl (.nil rfl) rfl rfl rfl ?_
        refine Wd.p .no rfl (.fa rfl f_132_3) rfl rfl rfl ?_
        refine Wd.ld (k := 0) .no rfl rfl rfl trivial (.s rfl .hd a_30 rfl) ?_
        refine Wd.p .no rfl (.assign rfl) rfl rfl rfl ?_
        refine Wd.p .no rfl (.assign rfl) rfl rfl rfl ?_
        refine Wd.nil (sq_n ?_)
        refine Wc.ret (sq_r ?_)
        refine retQ_r (hle8.trans hle9) (.tmp rfl (.tmp rfl .nil)) rfl ?_
        first
          | (rw [tonR_no hz, ho _ (by unfold okX; simp only [*]; simp)])
          | (rw [hz, ton_leaf hz])
      · have kh10 := h10; (try simp only [Bool.not_eq_true', Bool.not_eq_false', Bool.not_eq_true, Bool.not_eq_false, decide_eq_true_eq, decide_eq_false_iff_not, Int.not_lt, Int.not_le, Bool.not_eq_eq_eq_not, Bool.not_true, Bool.not_false] at kh10)
        have ho := fun (b : Bool) (e : b = !okX x0 x1 x2 x3 x4) => tonE_a (c := c) (ver := ver) (fo := fo) e
        have hz : tonE c ver fo x0 x1 x2 x3 x4 = 0 := (ho _ (by unfold okX; simp only [*]; simp)).symm.trans kh10
        obtain ⟨hz1, hz2, hz3⟩ := tonE_zero hz
        refine Wc.skip (sq_n ?_)
        refine Wc.seq ?_
        refine Wc.draw (tb := [⟨0, 0, false⟩, ⟨1, 0, false⟩, ⟨3, 0, false⟩, ⟨7, 0, false⟩, ⟨0, 0, false⟩, ⟨0, 0, false⟩, ⟨63, 0, true⟩, ⟨127, 1, true⟩, ⟨255, 1, true⟩]) rfl (by kernel_rfl) (by kernel_rfl) ?_
        refine Wd.p .no rfl (.move rfl) rfl rfl rfl ?_
        refine Wd.p .no rfl (.nil rfl) rfl rfl rfl ?_
        refine Wd.p .no rfl (.fa rfl f_132_1) rfl rfl rfl ?_
        refine Wd.ld (k := 0) .no rfl rfl rfl trivial (.a (vs := [_, _, _, _, _, _, _, _, _, _, _, _]) rfl .hd a_97 s_97 rfl rfl) ?_
        refine Wd.p .no rfl (.move rfl) rfl rfl rfl ?_
        refine Wd.ld (k := 0) .no rfl rfl rfl trivial (.a (vs := [_, _, _, _, _]) rfl (.tl .hd) a_38 s_38 rfl rfl) ?_
        refine Wd.callV .no rfl rfl rfl rfl rfl (tonnage_ok _ _ _ _ _ _ _ _ _ ⟨_, _, rfl, hp9, hl9⟩ hz2) ?_
        refine Wd.p .no rfl (.assign rfl) rfl rfl rfl ?_
        refine Wd.p .no rfl (.assign rfl) rfl rfl rfl ?_
        refine Wd.nil (sq_n ?_)
        refine Wc.ret ?_
        refine retQ_r (hle8.trans hle9) (.tmp rfl (.tmp rfl .nil)) rfl ?_
        first
          | (rw [tonR_no hz, ho _ (by unfold okX; simp only [*]; simp)])
          | (rw [hz, ton_leaf hz])
    · have kh7 := h7; (try simp only [Bool.not_eq_true', Bool.not_eq_false', Bool.not_eq_true, Bool.not_eq_false, decide_eq_true_eq, decide_eq_false_iff_not, Int.not_lt, Int.not_le, Bool.not_eq_eq_eq_not, Bool.not_true, Bool.not_false] at kh7)
      refine Wo.p (.yes rfl rfl h7) rfl (.move rfl) ?_
      refine Wo.callV (.yes rfl rfl h7) rfl rfl rfl (isWithin_ok _ _ _ _) ?_
      refine Wo.p (.yes rfl rfl h7) rfl (.not rfl) ?_
      refine Wo.p .no rfl (.pickF rfl h7 rfl) ?_
      refine Wo.p .no rfl (.assign rfl) ?_
      refine Wo.nil (bq_n (sq_n ?_))
      refine Wc.region rfl ?_
      refine Wo.p .no rfl (.addL (c := 3) rfl rfl rfl (by decide)) ?_
      refine Wo.p .no rfl (.move rfl) ?_
      refine Wo.nil (sq_n ?_)
      refine Wc.unroll ?_
      refine Wc.seq ?_
      refine Wc.region rfl ?_
      refine Wo.p .no rfl (.bin rfl rfl rfl) ?_
      refine Wo.nil (sq_n ?_)
      refine Wc.seq ?_
      refine Wc.condT rfl (by decide) ?_
      refine Wc.skip (sq_n ?_)
      refine Wc.seq ?_
      refine Wc.block ?_
      refine Wc.seq ?_
      refine Wc.region rfl ?_
      refine Wo.p .no rfl (.ixv (j := 3) rfl rfl ar_38 s_3 (by decide) (by rfl)) ?_
      refine Wo.p .no rfl (.assign rfl) ?_
      refine Wo.nil (sq_n ?_)
      refine Wc.region rfl ?_
      refine Wo.p .no rfl (.move rfl) ?_
      refine Wo.p .no rfl (.move rfl) ?_
      refine Wo.split (t := 19) rfl (fun h11 => ?_) (fun h11 => ?_)
      · have kh11 := h11; (try simp only [Bool.not_eq_true', Bool.not_eq_false', Bool.not_eq_true, Bool.not_eq_false, decide_eq_true_eq, decide_eq_false_iff_not, Int.not_lt, Int.not_le, Bool.not_eq_eq_eq_not, Bool.not_true, Bool.not_false] at kh11)
        refine Wo.skip (.yes rfl rfl h11) rfl ?_
        refine Wo.skip (.yes rfl rfl h11) rfl ?_
        refine Wo.skip (.yes rfl rfl h11) rfl ?_
        refine Wo.p .no rfl (.pickT rfl h11 rfl) ?_
        refine Wo.p .no rfl (.assign rfl) ?_
        refine Wo.nil (bq_n (sq_n ?_))
        refine Wc.region rfl ?_
        refine Wo.p .no rfl (.addL (c := 4) rfl rfl rfl (by decide)) ?_
        refine Wo.p .no rfl (.move rfl) ?_
        refine Wo.nil (sq_n ?_)
        refine Wc.unroll ?_
        refine Wc.seq ?_
        refine Wc.region rfl ?_
        refine Wo.p .no rfl (.bin rfl rfl rfl) ?_
        refine Wo.nil (sq_n ?_)
        refine Wc.seq ?_
        refine Wc.condT rfl (by decide) ?_
        refine Wc.skip (sq_n ?_)
        refine Wc.seq ?_
        refine Wc.block ?_
        refine Wc.seq ?_
        refine Wc.region rfl ?_
        refine Wo.p .no rfl (.ixv (j := 4) rfl rfl ar_38 s_3 (by decide) (by rfl)) ?_
        refine Wo.p .no rfl (.assign rfl) ?_
        refine Wo.nil (sq_n ?_)
        refine Wc.region rfl ?_
        refine Wo.p .no rfl (.move rfl) ?_
        refine Wo.p .no rfl (.move rfl) ?_
        refine Wo.skip (.yes rfl rfl rfl) rfl ?_
        refine Wo.skip (.yes rfl rfl rfl) rfl ?_
        refine Wo.skip (.yes rfl rfl rfl) rfl ?_
        refine Wo.p .no rfl (.pickT rfl rfl rfl) ?_
        refine Wo.p .no rfl (.assign rfl) ?_
        refine Wo.nil (bq_n (sq_n ?_))
        refine Wc.region rfl ?_
        refine Wo.p .no rfl (.addL (c := 5) rfl rfl rfl (by decide)) ?_
        refine Wo.p .no rfl (.move rfl) ?_
        refine Wo.nil (sq_n ?_)
        refine Wc.unroll ?_
        refine Wc.seq ?_
        refine Wc.region rfl ?_
        refine Wo.p .no rfl (.bin rfl rfl rfl) ?_
        refine Wo.nil (sq_n ?_)
        refine Wc.seq ?_
        refine Wc.condF rfl (by decide) ?_
        refine Wc.exit (sq_e (sq_e (bq_x rfl (sq_n ?_))))
        refine Wc.seq ?_
        refine Wc.region rfl ?_
        refine Wo.ld .no rfl (.a (vs := [_, _]) rfl (.tl .hd) a_24 s_24 rfl rfl) ?_
        refine Wo.call .no rfl rfl rfl (of_ok _ _ _ ⟨_, rfl, h⟩) ?_
        rintro g12 ml12 r12 hle12 ⟨b12, cs12, rfl, rfl, rfl, vv12, p12, lv12, rfl, hv12, hp12, hl12⟩
        replace h := h.mono VersionR.mono hle12
        refine Wo.p .no rfl (.move rfl) ?_
        refine Wo.callT .no rfl rfl rfl .hd (at_ok _ _ _ _ _ _ _ _ ⟨_, _, _, rfl, hv12, hp12, hl12⟩) ?_
        rintro g13 ml13 r13 hle13 ⟨cs13, rfl, rfl, rfl, vv13, p13, lv13, rfl, hv13, hp13, hl13⟩
        replace h := h.mono VersionR.mono hle13
        replace hv12 := hv12.mono VersionR.mono hle13
        replace hp12 := hp12.mono PutR.mono hle13
        replace hl12 := fun k hk => (hl12 k hk).mono PieceR.mono hle13
        refine Wo.p .no rfl (.move rfl) ?_
        refine Wo.callR .no rfl rfl rfl .hd (by_ok _ _ _ _ _ _ _ _ _ _ _ _ _ _ _ _ _ _ _) ?_
        refine Wo.p .no rfl (.move rfl) ?_
        refine Wo.callR .no rfl rfl rfl .hd (fail_ok _ _ _ _ _ _ _ _ _ _ _ _ _ _ _ _ _ _ _ _) ?_
        refine Wo.p .no rfl (.assign rfl) ?_
        refine Wo.nil (sq_n ?_)
        refine Wc.seq ?_
        refine Wc.seq ?_
        refine Wc.region rfl ?_
        refine Wo.p .no rfl (.move rfl) ?_
        refine Wo.p .no rfl (.nil rfl) ?_
        refine Wo.p .no rfl (.fa rfl f_132_3) ?_
        refine Wo.ld .no rfl (.s rfl .hd a_30 rfl) ?_
        refine Wo.p .no rfl (.bin rfl rfl rfl) ?_
        refine Wo.nil (sq_n ?_)
        refine Wc.cond rfl (fun h14 => ?_) (fun h14 => ?_)
        · have kh14 := h14; (try simp only [Bool.not_eq_true', Bool.not_eq_false', Bool.not_eq_true, Bool.not_eq_false, decide_eq_true_eq, decide_eq_false_iff_not, Int.not_lt, Int.not_le, Bool.not_eq_eq_eq_not, Bool.not_true, Bool.not_false] at kh14)
          have ho := fun (b : Bool) (e : b = !okX x0 x1 x2 x3 x4) => tonE_a (c := c) (ver := ver) (fo := fo) e
          have hz : ¬ tonE c ver fo x0 x1 x2 x3 x4 = 0 := fun e => kh14 ((ho _ (by unfold okX; simp only [*]; simp)).trans e)
          refine Wc.seq ?_
          refine Wc.draw (tb := [⟨0, 0, true⟩, ⟨1, 0, true⟩, ⟨3, 0, true⟩, ⟨7, 0, true⟩, ⟨0, 0, false⟩, ⟨31, 0, true⟩]) rfl (by kernel_rfl) (by kernel_rfl) ?_
          refine Wd.p .no rfl (.move rfl) rfl rfl rfl ?_
          refine Wd.p .no rfl (.nil rfl) rfl rfl rfl ?_
          refine Wd.p .no rfl (.fa rfl f_132_3) rfl rfl rfl ?_
          refine Wd.ld (k := 0) .no rfl rfl rfl trivial (.s rfl .hd a_30 rfl) ?_
          refine Wd.p .no rfl (.assign rfl) rfl rfl rfl ?_
          refine Wd.p .no rfl (.assign rfl) rfl rfl rfl ?_
          refine Wd.nil (sq_n ?_)
          refine Wc.ret (sq_r ?_)
          refine retQ_r (hle12.trans hle13) (.tmp rfl (.tmp rfl .nil)) rfl ?_
          first
            | (rw [tonR_no hz, ho _ (by unfold okX; simp only [*]; simp)])
            | (rw [hz, ton_leaf hz])
        · have kh14 := h14; (try simp only [Bool.not_eq_true', Bool.not_eq_false', Bool.not_eq_true, Bool.not_eq_false, decide_eq_true_eq, decide_eq_false_iff_not, Int.not_lt, Int.not_le, Bool.not_eq_eq_eq_not, Bool.not_true, Bool.not_false] at kh14)
          have ho := fun (b : Bool) (e : b = !okX x0 x1 x2 x3 x4) => tonE_a (c := c) (ver := ver) (fo := fo) e
          have hz : tonE c ver fo x0 x1 x2 x3 x4 = 0 := (ho _ (by unfold okX; simp only [*]; simp)).symm.trans kh14
          obtain ⟨hz1, hz2, hz3⟩ := tonE_zero hz
          refine Wc.skip (sq_n ?_)
          refine Wc.seq ?_
          refine Wc.draw (tb := [⟨0, 0, false⟩, ⟨1, 0, false⟩, ⟨3, 0, false⟩, ⟨7, 0, false⟩, ⟨0, 0, false⟩, ⟨0, 0, false⟩, ⟨63, 0, true⟩, ⟨127, 1, true⟩, ⟨255, 1, true⟩]) rfl (by kernel_rfl) (by kernel_rfl) ?_
          refine Wd.p .no rfl (.move rfl) rfl rfl rfl ?_
          refine Wd.p .no rfl (.nil rfl) rfl rfl rfl ?_
          refine Wd.p .no rfl (.fa rfl f_132_1) rfl rfl rfl ?_
          refine Wd.ld (k := 0) .no rfl rfl rfl trivial (.a (vs := [_, _, _, _, _, _, _, _, _, _, _, _]) rfl .hd a_97 s_97 rfl rfl) ?_
          refine Wd.p .no rfl (.move rfl) rfl rfl rfl ?_
          refine Wd.ld (k := 0) .no rfl rfl rfl trivial (.a (vs := [_, _, _, _, _]) rfl (.tl .hd) a_38 s_38 rfl rfl) ?_
          refine Wd.callV .no rfl rfl rfl rfl rfl (tonnage_ok _ _ _ _ _ _ _ _ _ ⟨_, _, rfl, hp13, hl13⟩ hz2) ?_
          refine Wd.p .no rfl (.assign rfl) rfl rfl rfl ?_
          refine Wd.p .no rfl (.assign rfl) rfl rfl rfl ?_
          refine Wd.nil (sq_n ?_)
          refine Wc.ret ?_
          refine retQ_r (hle12.trans hle13) (.tmp rfl (.tmp rfl .nil)) rfl ?_
          first
            | (rw [tonR_no hz, ho _ (by unfold okX; simp only [*]; simp)])
            | (rw [hz, ton_leaf hz])
      · have kh11 := h11; (try simp only [Bool.not_eq_true', Bool.not_eq_false', Bool.not_eq_true, Bool.not_eq_false, decide_eq_true_eq, decide_eq_false_iff_not, Int.not_lt, Int.not_le, Bool.not_eq_eq_eq_not, Bool.not_true, Bool.not_false] at kh11)
        refine Wo.p (.yes rfl rfl h11) rfl (.move rfl) ?_
        refine Wo.callV (.yes rfl rfl h11) rfl rfl rfl (isWithin_ok _ _ _ _) ?_
        refine Wo.p (.yes rfl rfl h11) rfl (.not rfl) ?_
        refine Wo.p .no rfl (.pickF rfl h11 rfl) ?_
        refine Wo.p .no rfl (.assign rfl) ?_
        refine Wo.nil (bq_n (sq_n ?_))
        refine Wc.region rfl ?_
        refine Wo.p .no rfl (.addL (c := 4) rfl rfl rfl (by decide)) ?_
        refine Wo.p .no rfl (.move rfl) ?_
        refine Wo.nil (sq_n ?_)
        refine Wc.unroll ?_
        refine Wc.seq ?_
        refine Wc.region rfl ?_
        refine Wo.p .no rfl (.bin rfl rfl rfl) ?_
        refine Wo.nil (sq_n ?_)
        refine Wc.seq ?_
        refine Wc.condT rfl (by decide) ?_
        refine Wc.skip (sq_n ?_)
        refine Wc.seq ?_
        refine Wc.block ?_
        refine Wc.seq ?_
        refine Wc.region rfl ?_
        refine Wo.p .no rfl (.ixv (j := 4) rfl rfl ar_38 s_3 (by decide) (by rfl)) ?_
        refine Wo.p .no rfl (.assign rfl) ?_
        refine Wo.nil (sq_n ?_)
        refine Wc.region rfl ?_
        refine Wo.p .no rfl (.move rfl) ?_
        refine Wo.p .no rfl (.move rfl) ?_
        refine Wo.split (t := 19) rfl (fun h15 => ?_) (fun h15 => ?_)
        · have kh15 := h15; (try simp only [Bool.not_eq_true', Bool.not_eq_false', Bool.not_eq_true, Bool.not_eq_false, decide_eq_true_eq, decide_eq_false_iff_not, Int.not_lt, Int.not_le, Bool.not_eq_eq_eq_not, Bool.not_true, Bool.not_false] at kh15)
          refine Wo.skip (.yes rfl rfl h15) rfl ?_
          refine Wo.skip (.yes rfl rfl h15) rfl ?_
          refine Wo.skip (.yes rfl rfl h15) rfl ?_
          refine Wo.p .no rfl (.pickT rfl h15 rfl) ?_
          refine Wo.p .no rfl (.assign rfl) ?_
          refine Wo.nil (bq_n (sq_n ?_))
          refine Wc.region rfl ?_
          refine Wo.p .no rfl (.addL (c := 5) rfl rfl rfl (by decide)) ?_
          refine Wo.p .no rfl (.move rfl) ?_
          refine Wo.nil (sq_n ?_)
          refine Wc.unroll ?_
          refine Wc.seq ?_
          refine Wc.region rfl ?_
          refine Wo.p .no rfl (.bin rfl rfl rfl) ?_
          refine Wo.nil (sq_n ?_)
          refine Wc.seq ?_
          refine Wc.condF rfl (by decide) ?_
          refine Wc.exit (sq_e (sq_e (bq_x rfl (sq_n ?_))))
          refine Wc.seq ?_
          refine Wc.region rfl ?_
          refine Wo.ld .no rfl (.a (vs := [_, _]) rfl (.tl .hd) a_24 s_24 rfl rfl) ?_
          refine Wo.call .no rfl rfl rfl (of_ok _ _ _ ⟨_, rfl, h⟩) ?_
          rintro g16 ml16 r16 hle16 ⟨b16, cs16, rfl, rfl, rfl, vv16, p16, lv16, rfl, hv16, hp16, hl16⟩
          replace h := h.mono VersionR.mono hle16
          refine Wo.p .no rfl (.move rfl) ?_
          refine Wo.callT .no rfl rfl rfl .hd (at_ok _ _ _ _ _ _ _ _ ⟨_, _, _, rfl, hv16, hp16, hl16⟩) ?_
          rintro g17 ml17 r17 hle17 ⟨cs17, rfl, rfl, rfl, vv17, p17, lv17, rfl, hv17, hp17, hl17⟩
          replace h := h.mono VersionR.mono hle17
          replace hv16 := hv16.mono VersionR.mono hle17
          replace hp16 := hp16.mono PutR.mono hle17
          replace hl16 := fun k hk => (hl16 k hk).mono PieceR.mono hle17
          refine Wo.p .no rfl (.move rfl) ?_
          refine Wo.callR .no rfl rfl rfl .hd (by_ok _ _ _ _ _ _ _ _ _ _ _ _ _ _ _ _ _ _ _) ?_
          refine Wo.p .no rfl (.move rfl) ?_
          refine Wo.callR .no rfl rfl rfl .hd (fail_ok _ _ _ _ _ _ _ _ _ _ _ _ _ _ _ _ _ _ _ _) ?_
          refine Wo.p .no rfl (.assign rfl) ?_
          refine Wo.nil (sq_n ?_)
          refine Wc.seq ?_
          refine Wc.seq ?_
          refine Wc.region rfl ?_
          refine Wo.p .no rfl (.move rfl) ?_
          refine Wo.p .no rfl (.nil rfl) ?_
          refine Wo.p .no rfl (.fa rfl f_132_3) ?_
          refine Wo.ld .no rfl (.s rfl .hd a_30 rfl) ?_
          refine Wo.p .no rfl (.bin rfl rfl rfl) ?_
          refine Wo.nil (sq_n ?_)
          refine Wc.cond rfl (fun h18 => ?_) (fun h18 => ?_)
          · have kh18 := h18; (try simp only [Bool.not_eq_true', Bool.not_eq_false', Bool.not_eq_true, Bool.not_eq_false, decide_eq_true_eq, decide_eq_false_iff_not, Int.not_lt, Int.not_le, Bool.not_eq_eq_eq_not, Bool.not_true, Bool.not_false] at kh18)
            have ho := fun (b : Bool) (e : b = !okX x0 x1 x2 x3 x4) => tonE_a (c := c) (ver := ver) (fo := fo) e
            have hz : ¬ tonE c ver fo x0 x1 x2 x3 x4 = 0 := fun e => kh18 ((ho _ (by unfold okX; simp only [*]; simp)).trans e)
            refine Wc.seq ?_
            refine Wc.draw (tb := [⟨0, 0, true⟩, ⟨1, 0, true⟩, ⟨3, 0, true⟩, ⟨7, 0, true⟩, ⟨0, 0, false⟩, ⟨31, 0, true⟩]) rfl (by kernel_rfl) (by kernel_rfl) ?_
            refine Wd.p .no rfl (.move rfl) rfl rfl rfl ?_
            refine Wd.p .no rfl (.nil rfl) rfl rfl rfl ?_
            refine Wd.p .no rfl (.fa rfl f_132_3) rfl rfl rfl ?_
            refine Wd.ld (k := 0) .no rfl rfl rfl trivial (.s rfl .hd a_30 rfl) ?_
            refine Wd.p .no rfl (.assign rfl) rfl rfl rfl ?_
            refine Wd.p .no rfl (.assign rfl) rfl rfl rfl ?_
            refine Wd.nil (sq_n ?_)
            refine Wc.ret (sq_r ?_)
            refine retQ_r (hle16.trans hle17) (.tmp rfl (.tmp rfl .nil)) rfl ?_
            first
              | (rw [tonR_no hz, ho _ (by unfold okX; simp only [*]; simp)])
              | (rw [hz, ton_leaf hz])
          · have kh18 := h18; (try simp only [Bool.not_eq_true', Bool.not_eq_false', Bool.not_eq_true, Bool.not_eq_false, decide_eq_true_eq, decide_eq_false_iff_not, Int.not_lt, Int.not_le, Bool.not_eq_eq_eq_not, Bool.not_true, Bool.not_false] at kh18)
            have ho := fun (b : Bool) (e : b = !okX x0 x1 x2 x3 x4) => tonE_a (c := c) (ver := ver) (fo := fo) e
            have hz : tonE c ver fo x0 x1 x2 x3 x4 = 0 := (ho _ (by unfold okX; simp only [*]; simp)).symm.trans kh18
            obtain ⟨hz1, hz2, hz3⟩ := tonE_zero hz
            refine Wc.skip (sq_n ?_)
            refine Wc.seq ?_
            refine Wc.draw (tb := [⟨0, 0, false⟩, ⟨1, 0, false⟩, ⟨3, 0, false⟩, ⟨7, 0, false⟩, ⟨0, 0, false⟩, ⟨0, 0, false⟩, ⟨63, 0, true⟩, ⟨127, 1, true⟩, ⟨255, 1, true⟩]) rfl (by kernel_rfl) (by kernel_rfl) ?_
            refine Wd.p .no rfl (.move rfl) rfl rfl rfl ?_
            refine Wd.p .no rfl (.nil rfl) rfl rfl rfl ?_
            refine Wd.p .no rfl (.fa rfl f_132_1) rfl rfl rfl ?_
            refine Wd.ld (k := 0) .no rfl rfl rfl trivial (.a (vs := [_, _, _, _, _, _, _, _, _, _, _, _]) rfl .hd a_97 s_97 rfl rfl) ?_
            refine Wd.p .no rfl (.move rfl) rfl rfl rfl ?_
            refine Wd.ld (k := 0) .no rfl rfl rfl trivial (.a (vs := [_, _, _, _, _]) rfl (.tl .hd) a_38 s_38 rfl rfl) ?_
            refine Wd.callV .no rfl rfl rfl rfl rfl (tonnage_ok _ _ _ _ _ _ _ _ _ ⟨_, _, rfl, hp17, hl17⟩ hz2) ?_
            refine Wd.p .no rfl (.assign rfl) rfl rfl rfl ?_
            refine Wd.p .no rfl (.assign rfl) rfl rfl rfl ?_
            refine Wd.nil (sq_n ?_)
            refine Wc.ret ?_
            refine retQ_r (hle16.trans hle17) (.tmp rfl (.tmp rfl .nil)) rfl ?_
            first
              | (rw [tonR_no hz, ho _ (by unfold okX; simp only [*]; simp)])
              | (rw [hz, ton_leaf hz])
        · have kh15 := h15; (try simp only [Bool.not_eq_true', Bool.not_eq_false', Bool.not_eq_true, Bool.not_eq_false, decide_eq_true_eq, decide_eq_false_iff_not, Int.not_lt, Int.not_le, Bool.not_eq_eq_eq_not, Bool.not_true, Bool.not_false] at kh15)
          refine Wo.p (.yes rfl rfl h15) rfl (.move rfl) ?_
          refine Wo.callV (.yes rfl rfl h15) rfl rfl rfl (isWithin_ok _ _ _ _) ?_
          refine Wo.p (.yes rfl rfl h15) rfl (.not rfl) ?_
          refine Wo.p .no rfl (.pickF rfl h15 rfl) ?_
          refine Wo.p .no rfl (.assign rfl) ?_
          refine Wo.nil (bq_n (sq_n ?_))
          refine Wc.region rfl ?_
          refine Wo.p .no rfl (.addL (c := 5) rfl rfl rfl (by decide)) ?_
          refine Wo.p .no rfl (.move rfl) ?_
          refine Wo.nil (sq_n ?_)
          refine Wc.unroll ?_
          refine Wc.seq ?_
          refine Wc.region rfl ?_
          refine Wo.p .no rfl (.bin rfl rfl rfl) ?_
          refine Wo.nil (sq_n ?_)
          refine Wc.seq ?_
          refine Wc.condF rfl (by decide) ?_
          refine Wc.exit (sq_e (sq_e (bq_x rfl (sq_n ?_))))
          refine Wc.seq ?_
          refine Wc.region rfl ?_
          refine Wo.ld .no rfl (.a (vs := [_, _]) rfl (.tl .hd) a_24 s_24 rfl rfl) ?_
          refine Wo.call .no rfl rfl rfl (of_ok _ _ _ ⟨_, rfl, h⟩) ?_
          rintro g19 ml19 r19 hle19 ⟨b19, cs19, rfl, rfl, rfl, vv19, p19, lv19, rfl, hv19, hp19, hl19⟩
          replace h := h.mono VersionR.mono hle19
          refine Wo.p .no rfl (.move rfl) ?_
          refine Wo.callT .no rfl rfl rfl .hd (at_ok _ _ _ _ _ _ _ _ ⟨_, _, _, rfl, hv19, hp19, hl19⟩) ?_
          rintro g20 ml20 r20 hle20 ⟨cs20, rfl, rfl, rfl, vv20, p20, lv20, rfl, hv20, hp20, hl20⟩
          replace h := h.mono VersionR.mono hle20
          replace hv19 := hv19.mono VersionR.mono hle20
          replace hp19 := hp19.mono PutR.mono hle20
          replace hl19 := fun k hk => (hl19 k hk).mono PieceR.mono hle20
          refine Wo.p .no rfl (.move rfl) ?_
          refine Wo.callR .no rfl rfl rfl .hd (by_ok _ _ _ _ _ _ _ _ _ _ _ _ _ _ _ _ _ _ _) ?_
          refine Wo.p .no rfl (.move rfl) ?_
          refine Wo.callR .no rfl rfl rfl .hd (fail_ok _ _ _ _ _ _ _ _ _ _ _ _ _ _ _ _ _ _ _ _) ?_
          refine Wo.p .no rfl (.assign rfl) ?_
          refine Wo.nil (sq_n ?_)
          refine Wc.seq ?_
          refine Wc.seq ?_
          refine Wc.region rfl ?_
          refine Wo.p .no rfl (.move rfl) ?_
          refine Wo.p .no rfl (.nil rfl) ?_
          refine Wo.p .no rfl (.fa rfl f_132_3) ?_
          refine Wo.ld .no rfl (.s rfl .hd a_30 rfl) ?_
          refine Wo.p .no rfl (.bin rfl rfl rfl) ?_
          refine Wo.nil (sq_n ?_)
          refine Wc.cond rfl (fun h21 => ?_) (fun h21 => ?_)
          · have kh21 := h21; (try simp only [Bool.not_eq_true', Bool.not_eq_false', Bool.not_eq_true, Bool.not_eq_false, decide_eq_true_eq, decide_eq_false_iff_not, Int.not_lt, Int.not_le, Bool.not_eq_eq_eq_not, Bool.not_true, Bool.not_false] at kh21)
            have ho := fun (b : Bool) (e : b = !okX x0 x1 x2 x3 x4) => tonE_a (c := c) (ver := ver) (fo := fo) e
            have hz : ¬ tonE c ver fo x0 x1 x2 x3 x4 = 0 := fun e => kh21 ((ho _ (by unfold okX; simp only [*]; simp)).trans e)
            refine Wc.seq ?_
            refine Wc.draw (tb := [⟨0, 0, true⟩, ⟨1, 0, true⟩, ⟨3, 0, true⟩, ⟨7, 0, true⟩, ⟨0, 0, false⟩, ⟨31, 0, true⟩]) rfl (by kernel_rfl) (by kernel_rfl) ?_
            refine Wd.p .no rfl (.move rfl) rfl rfl rfl ?_
            refine Wd.p .no rfl (.nil rfl) rfl rfl rfl ?_
            refine Wd.p .no rfl (.fa rfl f_132_3) rfl rfl rfl ?_
            refine Wd.ld (k := 0) .no rfl rfl rfl trivial (.s rfl .hd a_30 rfl) ?_
            refine Wd.p .no rfl (.assign rfl) rfl rfl rfl ?_
            refine Wd.p .no rfl (.assign rfl) rfl rfl rfl ?_
            refine Wd.nil (sq_n ?_)
            refine Wc.ret (sq_r ?_)
            refine retQ_r (hle19.trans hle20) (.tmp rfl (.tmp rfl .nil)) rfl ?_
            first
              | (rw [tonR_no hz, ho _ (by unfold okX; simp only [*]; simp)])
              | (rw [hz, ton_leaf hz])
          · have kh21 := h21; (try simp only [Bool.not_eq_true', Bool.not_eq_false', Bool.not_eq_true, Bool.not_eq_false, decide_eq_true_eq, decide_eq_false_iff_not, Int.not_lt, Int.not_le, Bool.not_eq_eq_eq_not, Bool.not_true, Bool.not_false] at kh21)
            have ho := fun (b : Bool) (e : b = !okX x0 x1 x2 x3 x4) => tonE_a (c := c) (ver := ver) (fo := fo) e
            have hz : tonE c ver fo x0 x1 x2 x3 x4 = 0 := (ho _ (by unfold okX; simp only [*]; simp)).symm.trans kh21
            obtain ⟨hz1, hz2, hz3⟩ := tonE_zero hz
            refine Wc.skip (sq_n ?_)
            refine Wc.seq ?_
            refine Wc.draw (tb := [⟨0, 0, false⟩, ⟨1, 0, false⟩, ⟨3, 0, false⟩, ⟨7, 0, false⟩, ⟨0, 0, false⟩, ⟨0, 0, false⟩, ⟨63, 0, true⟩, ⟨127, 1, true⟩, ⟨255, 1, true⟩]) rfl (by kernel_rfl) (by kernel_rfl) ?_
            refine Wd.p .no rfl (.move rfl) rfl rfl rfl ?_
            refine Wd.p .no rfl (.nil rfl) rfl rfl rfl ?_
            refine Wd.p .no rfl (.fa rfl f_132_1) rfl rfl rfl ?_
            refine Wd.ld (k := 0) .no rfl rfl rfl trivial (.a (vs := [_, _, _, _, _, _, _, _, _, _, _, _]) rfl .hd a_97 s_97 rfl rfl) ?_
            refine Wd.p .no rfl (.move rfl) rfl rfl rfl ?_
            refine Wd.ld (k := 0) .no rfl rfl rfl trivial (.a (vs := [_, _, _, _, _]) rfl (.tl .hd) a_38 s_38 rfl rfl) ?_
            refine Wd.callV .no rfl rfl rfl rfl rfl (tonnage_ok _ _ _ _ _ _ _ _ _ ⟨_, _, rfl, hp20, hl20⟩ hz2) ?_
            refine Wd.p .no rfl (.assign rfl) rfl rfl rfl ?_
            refine Wd.p .no rfl (.assign rfl) rfl rfl rfl ?_
            refine Wd.nil (sq_n ?_)
            refine Wc.ret ?_
            refine retQ_r (hle19.trans hle20) (.tmp rfl (.tmp rfl .nil)) rfl ?_
            first
              | (rw [tonR_no hz, ho _ (by unfold okX; simp only [*]; simp)])
              | (rw [hz, ton_leaf hz])
--REG c.Tonnage {'mode':'V','term':'(Tonnage_ok _ _ _ _ _ _ _ _ _ _ {0})','val':lambda s,n:V('tup',vals=[V('int'),V('int')])}
theorem tonE_err {c : Code} {ver fo x0 x1 x2 x3 x4 : Int} (h : ¬ c.err = 0) : tonE c ver fo x0 x1 x2 x3 x4 = c.err := by unfold tonE byE atE failE; simp [h]
theorem tonE_ver {c : Code} {ver fo x0 x1 x2 x3 x4 : Int} (h : c.err = 0) (h2 : within ver 0 (c.vs.length - 1) = false) : tonE c ver fo x0 x1 x2 x3 x4 = 42 := by unfold tonE byE atE failE; simp [h, h2]
theorem tonE_arg {c : Code} {ver fo x0 x1 x2 x3 x4 : Int} (h : c.err = 0) (h2 : within ver 0 (c.vs.length - 1) = true) (h3 : within fo 0 1 = false ∨ okX x0 x1 x2 x3 x4 = false) : tonE c ver fo x0 x1 x2 x3 x4 = 1 := by
  have hf : within fo 0 1 = false → (fo = 0 → False) ∧ (fo = 1 → False) := fun h => by unfold within at h; simp at h; omega
  unfold tonE byE atE failE
  rcases h3 with h3 | h3
  · have := hf h3
    by_cases a : fo = 0
    · exact absurd a this.1
    · by_cases b : fo = 1
      · exact absurd b this.2
      · simp [h, h2, a, b]
  · by_cases a : fo = 0 <;> by_cases b : fo = 1 <;> simp [h, h2, h3, a, b]
theorem tonE_ok {c : Code} {ver fo x0 x1 x2 x3 x4 : Int} (h : c.err = 0) (h2 : within ver 0 (c.vs.length - 1) = true) (h3 : within fo 0 1 = true) (h4 : okX x0 x1 x2 x3 x4 = true) : tonE c ver fo x0 x1 x2 x3 x4 = 0 := by
  have hf : fo = 0 ∨ fo = 1 := by unfold within at h3; simp at h3; omega
  unfold tonE byE atE failE
  rcases hf with rfl | rfl <;> simp [h, h2, h4]
theorem rton_leaf {f : List Piece → Int → Int} {c : Code} {ver fo x0 x1 x2 x3 x4 : Int} {y : Version} (hz : tonE c ver fo x0 x1 x2 x3 x4 = 0) (hy : c.vs[ver.toNat]? = some y) : downI (tonS f y fo.toNat x0 x1 x2 x3 x4) = tonR f c ver fo x0 x1 x2 x3 x4 := by
  unfold tonR
  rw [if_pos hz, List.getD_eq_getElem?_getD, hy]
  rfl
theorem fo01 {fo : Int} (h : within fo 0 1 = true) : fo = 0 ∨ fo = 1 := by unfold within at h; simp at h; omega
theorem rTonnage_ok (c : Code) (ver fo x0 x1 x2 x3 x4 : Int) (cs : List V) (g : G) (h : CodeR g cs c) : Fv Tryz.prog natS (.f 31 [] []) [.agg cs, .i .i64 ver, .i .i64 fo, .agg [.i .i64 x0, .i .i64 x1, .i .i64 x2, .i .i64 x3, .i .i64 x4]] g (.tup [.i .i64 (tonR refV c ver fo x0 x1 x2 x3 x4), .i .i64 (tonE c ver fo x0 x1 x2 x3 x4)]) := by
  obtain ⟨v, rfl, h⟩ := h
  refine Fw.fv ?_
  have hlen := h.1
  refine Fw.enter (N := 44) (al := [(3, _), (2, _), (1, _), (0, _)]) Tryz.func31 (by kernel_rfl) (by kernel_rfl) rfl rfl rfl rfl ?_
  intro B
  refine Wc.seq ?_
  refine Wc.region rfl ?_
  refine Wo.box .no rfl rfl rfl rfl (fun b1 => ?_)
  refine Wo.box .no rfl rfl rfl rfl (fun b2 => ?_)
  refine Wo.p .no rfl (.assign rfl) ?_
  refine Wo.p .no rfl (.assign rfl) ?_
  refine Wo.nil (sq_n ?_)
  refine Wc.seq ?_
  refine Wc.region rfl ?_
  refine Wo.ld .no rfl (.a (vs := [_, _]) rfl (.tl .hd) a_24 s_24 rfl rfl) ?_
  refine Wo.callV .no rfl rfl rfl (rCheck_ok _ _ _ ⟨_, rfl, h⟩) ?_
  refine Wo.p .no rfl (.assign rfl) ?_
  refine Wo.nil (sq_n ?_)
  refine Wc.seq ?_
  refine Wc.seq ?_
  refine Wc.region rfl ?_
  refine Wo.p .no rfl (.move rfl) ?_
  refine Wo.p .no rfl (.bin rfl rfl rfl) ?_
  refine Wo.nil (sq_n ?_)
  refine Wc.cond rfl (fun h3 => ?_) (fun h3 => ?_)
  · have kh3 := h3; (try simp only [Bool.not_eq_true', Bool.not_eq_false', Bool.not_eq_true, Bool.not_eq_false, decide_eq_true_eq, decide_eq_false_iff_not, Int.not_lt, Int.not_le, Bool.not_eq_eq_eq_not, Bool.not_true, Bool.not_false] at kh3)
    refine Wc.seq ?_
    refine Wc.region rfl ?_
    refine Wo.p .no rfl (.move rfl) ?_
    refine Wo.p .no rfl (.assign rfl) ?_
    refine Wo.p .no rfl (.assign rfl) ?_
    refine Wo.nil (sq_n ?_)
    refine Wc.ret (sq_r ?_)
    refine retQ_r (Le.refl _) (.tmp rfl (.tmp rfl .nil)) rfl ?_
    first
      | (rw [tonR_no (by rw [tonE_err (by with_reducible assumption)]; assumption), tonE_err (by with_reducible assumption)])
      | (rw [tonR_no (by rw [tonE_ver (by with_reducible assumption) (by with_reducible assumption)]; decide), tonE_ver (by with_reducible assumption) (by with_reducible assumption)])
      | (rw [tonR_no (by rw [tonE_arg (by with_reducible assumption) (by with_reducible assumption) (.inl (by with_reducible assumption))]; decide), tonE_arg (by with_reducible assumption) (by with_reducible assumption) (.inl (by with_reducible assumption))])
      | (have ho : okX x0 x1 x2 x3 x4 = false := by unfold okX; simp only [*]; simp
         rw [tonR_no (by rw [tonE_arg (by with_reducible assumption) (by with_reducible assumption) (.inr ho)]; decide), tonE_arg (by with_reducible assumption) (by with_reducible assumption) (.inr ho)])
      | (have ho : okX x0 x1 x2 x3 x4 = true := by unfold okX; simp only [*]; simp
         have hz := tonE_ok (fo := fo) (x0 := x0) (x1 := x1) (x2 := x2) (x3 := x3) (x4 := x4) ‹c.err = 0› ‹within ver 0 _ = true› ‹within fo 0 1 = true› ho
         rw [hz, ← rton_leaf hz (by with_reducible assumption)])
  · have kh3 := h3; (try simp only [Bool.not_eq_true', Bool.not_eq_false', Bool.not_eq_true, Bool.not_eq_false, decide_eq_true_eq, decide_eq_false_iff_not, Int.not_lt, Int.not_le, Bool.not_eq_eq_eq_not, Bool.not_true, Bool.not_false] at kh3)
    refine Wc.skip (sq_n ?_)
    refine Wc.seq ?_
    refine Wc.seq ?_
    refine Wc.region rfl ?_
    refine Wo.p .no rfl (.move rfl) ?_
    refine Wo.p .no rfl (.fa rfl f_24_1) ?_
    refine Wo.ld .no rfl (.s rfl (.tl .hd) a_22 rfl) ?_
    refine Wo.p .no rfl (.lenR rfl rfl rfl e_22 h) ?_
    refine Wo.p .no rfl (.sub rfl rfl (by omega)) ?_
    refine Wo.callV .no rfl rfl rfl (in_ok _ _ _ _) ?_
    refine Wo.p .no rfl (.not rfl) ?_
    refine Wo.nil (sq_n ?_)
    refine Wc.cond rfl (fun h4 => ?_) (fun h4 => ?_)
    · have kh4 := h4; (try simp only [Bool.not_eq_true', Bool.not_eq_false', Bool.not_eq_true, Bool.not_eq_false, decide_eq_true_eq, decide_eq_false_iff_not, Int.not_lt, Int.not_le, Bool.not_eq_eq_eq_not, Bool.not_true, Bool.not_false] at kh4)
      refine Wc.seq ?_
      refine Wc.region rfl ?_
      refine Wo.p .no rfl (.assign rfl) ?_
      refine Wo.p .no rfl (.assign rfl) ?_
      refine Wo.nil (sq_n ?_)
      refine Wc.ret (sq_r ?_)
      refine retQ_r (Le.refl _) (.tmp rfl (.tmp rfl .nil)) rfl ?_
      first
        | (rw [tonR_no (by rw [tonE_err (by with_reducible assumption)]; assumption), tonE_err (by with_reducible assumption)])
        | (rw [tonR_no (by rw [tonE_ver (by with_reducible assumption) (by with_reducible assumption)]; decide), tonE_ver (by with_reducible assumption) (by with_reducible assumption)])
        | (rw [tonR_no (by rw [tonE_arg (by with_reducible assumption) (by with_reducible assumption) (.inl (by with_reducible assumption))]; decide), tonE_arg (by with_reducible assumption) (by with_reducible assumption) (.inl (by with_reducible assumption))])
        | (have ho : okX x0 x1 x2 x3 x4 = false := by unfold okX; simp only [*]; simp
           rw [tonR_no (by rw [tonE_arg (by with_reducible assumption) (by with_reducible assumption) (.inr ho)]; decide), tonE_arg (by with_reducible assumption) (by with_reducible assumption) (.inr ho)])
        | (have ho : okX x0 x1 x2 x3 x4 = true := by unfold okX; simp only [*]; simp
           have hz := tonE_ok (fo := fo) (x0 := x0) (x1 := x1) (x2 := x2) (x3 := x3) (x4 := x4) ‹c.err = 0› ‹within ver 0 _ = true› ‹within fo 0 1 = true› ho
           rw [hz, ← rton_leaf hz (by with_reducible assumption)])
    · have kh4 := h4; (try simp only [Bool.not_eq_true', Bool.not_eq_false', Bool.not_eq_true, Bool.not_eq_false, decide_eq_true_eq, decide_eq_false_iff_not, Int.not_lt, Int.not_le, Bool.not_eq_eq_eq_not, Bool.not_true, Bool.not_false] at kh4)
      refine Wc.skip (sq_n ?_)
      refine Wc.seq ?_
      refine Wc.seq ?_
      refine Wc.region rfl ?_
      refine Wo.p .no rfl (.move rfl) ?_
      refine Wo.callV .no rfl rfl rfl (in_ok _ _ _ _) ?_
      refine Wo.p .no rfl (.not rfl) ?_
      refine Wo.nil (sq_n ?_)
      refine Wc.cond rfl (fun h5 => ?_) (fun h5 => ?_)
      · have kh5 := h5; (try simp only [Bool.not_eq_true', Bool.not_eq_false', Bool.not_eq_true, Bool.not_eq_false, decide_eq_true_eq, decide_eq_false_iff_not, Int.not_lt, Int.not_le, Bool.not_eq_eq_eq_not, Bool.not_true, Bool.not_false] at kh5)
        refine Wc.seq ?_
        refine Wc.region rfl ?_
        refine Wo.p .no rfl (.assign rfl) ?_
        refine Wo.p .no rfl (.assign rfl) ?_
        refine Wo.nil (sq_n ?_)
        refine Wc.ret (sq_r ?_)
        refine retQ_r (Le.refl _) (.tmp rfl (.tmp rfl .nil)) rfl ?_
        first
          | (rw [tonR_no (by rw [tonE_err (by with_reducible assumption)]; assumption), tonE_err (by with_reducible assumption)])
          | (rw [tonR_no (by rw [tonE_ver (by with_reducible assumption) (by with_reducible assumption)]; decide), tonE_ver (by with_reducible assumption) (by with_reducible assumption)])
          | (rw [tonR_no (by rw [tonE_arg (by with_reducible assumption) (by with_reducible assumption) (.inl (by with_reducible assumption))]; decide), tonE_arg (by with_reducible assumption) (by with_reducible assumption) (.inl (by with_reducible assumption))])
          | (have ho : okX x0 x1 x2 x3 x4 = false := by unfold okX; simp only [*]; simp
             rw [tonR_no (by rw [tonE_arg (by with_reducible assumption) (by with_reducible assumption) (.inr ho)]; decide), tonE_arg (by with_reducible assumption) (by with_reducible assumption) (.inr ho)])
          | (have ho : okX x0 x1 x2 x3 x4 = true := by unfold okX; simp only [*]; simp
             have hz := tonE_ok (fo := fo) (x0 := x0) (x1 := x1) (x2 := x2) (x3 := x3) (x4 := x4) ‹c.err = 0› ‹within ver 0 _ = true› ‹within fo 0 1 = true› ho
             rw [hz, ← rton_leaf hz (by with_reducible assumption)])
      · have kh5 := h5; (try simp only [Bool.not_eq_true', Bool.not_eq_false', Bool.not_eq_true, Bool.not_eq_false, decide_eq_true_eq, decide_eq_false_iff_not, Int.not_lt, Int.not_le, Bool.not_eq_eq_eq_not, Bool.not_true, Bool.not_false] at kh5)
        refine Wc.skip (sq_n ?_)
        refine Wc.seq ?_
        refine Wc.seq ?_
        refine Wc.region rfl ?_
        refine Wo.p .no rfl (.assign rfl) ?_
        refine Wo.nil (sq_n ?_)
        refine Wc.block ?_
        refine Wc.unroll ?_
        refine Wc.seq ?_
        refine Wc.seq ?_
        refine Wc.region rfl ?_
        refine Wo.p .no rfl (.move rfl) ?_
        refine Wo.p .no rfl (.bin rfl rfl rfl) ?_
        refine Wo.nil (sq_n ?_)
        refine Wc.condT rfl (by decide) ?_
        refine Wc.skip (sq_n ?_)
        refine Wc.seq ?_
        refine Wc.block ?_
        refine Wc.seq ?_
        refine Wc.region rfl ?_
        refine Wo.p .no rfl (.move rfl) ?_
        refine Wo.p .no rfl (.ixa (j := 0) rfl rfl ae_38 (by decide)) ?_
        refine Wo.ld .no rfl (.s rfl .hd a_3 rfl) ?_
        refine Wo.callV .no rfl rfl rfl (in_ok _ _ _ _) ?_
        refine Wo.p .no rfl (.not rfl) ?_
        refine Wo.nil (sq_n ?_)
        refine Wc.cond rfl (fun h6 => ?_) (fun h6 => ?_)
        · have kh6 := h6; (try simp only [Bool.not_eq_true', Bool.not_eq_false', Bool.not_eq_true, Bool.not_eq_false, decide_eq_true_eq, decide_eq_false_iff_not, Int.not_lt, Int.not_le, Bool.not_eq_eq_eq_not, Bool.not_true, Bool.not_false] at kh6)
          refine Wc.seq ?_
          refine Wc.region rfl ?_
          refine Wo.p .no rfl (.assign rfl) ?_
          refine Wo.p .no rfl (.assign rfl) ?_
          refine Wo.nil (sq_n ?_)
          refine Wc.ret (bq_r (sq_r (sq_r (bq_r (sq_r ?_)))))
          refine retQ_r (Le.refl _) (.tmp rfl (.tmp rfl .nil)) rfl ?_
          first
            | (rw [tonR_no (by rw [tonE_err (by with_reducible assumption)]; assumption), tonE_err (by with_reducible assumption)])
            | (rw [tonR_no (by rw [tonE_ver (by with_reducible assumption) (by with_reducible assumption)]; decide), tonE_ver (by with_reducible assumption) (by with_reducible assumption)])
            | (rw [tonR_no (by rw [tonE_arg (by with_reducible assumption) (by with_reducible assumption) (.inl (by with_reducible assumption))]; decide), tonE_arg (by with_reducible assumption) (by with_reducible assumption) (.inl (by with_reducible assumption))])
            | (have ho : okX x0 x1 x2 x3 x4 = false := by unfold okX; simp only [*]; simp
               rw [tonR_no (by rw [tonE_arg (by with_reducible assumption) (by with_reducible assumption) (.inr ho)]; decide), tonE_arg (by with_reducible assumption) (by with_reducible assumption) (.inr ho)])
            | (have ho : okX x0 x1 x2 x3 x4 = true := by unfold okX; simp only [*]; simp
               have hz := tonE_ok (fo := fo) (x0 := x0) (x1 := x1) (x2 := x2) (x3 := x3) (x4 := x4) ‹c.err = 0› ‹within ver 0 _ = true› ‹within fo 0 1 = true› ho
               rw [hz, ← rton_leaf hz (by with_reducible assumption)])
        · have kh6 := h6; (try simp only [Bool.not_eq_true', Bool.not_eq_false', Bool.not_eq_true, Bool.not_eq_false, decide_eq_true_eq, decide_eq_false_iff_not, Int.not_lt, Int.not_le, Bool.not_eq_eq_eq_not, Bool.not_true, Bool.not_false] at kh6)
          refine Wc.skip (bq_n (sq_n ?_))
          refine Wc.region rfl ?_
          refine Wo.p .no rfl (.move rfl) ?_
          refine Wo.p .no rfl (.addL (c := 1) rfl rfl rfl (by decide)) ?_
          refine Wo.p .no rfl (.assign rfl) ?_
          refine Wo.nil (sq_n ?_)
          refine Wc.unroll ?_
          refine Wc.seq ?_
          refine Wc.seq ?_
          refine Wc.region rfl ?_
          refine Wo.p .no rfl (.move rfl) ?_
          refine Wo.p .no rfl (.bin rfl rfl rfl) ?_
          refine Wo.nil (sq_n ?_)
          refine Wc.condT rfl (by decide) ?_
          refine Wc.skip (sq_n ?_)
          refine Wc.seq ?_
          refine Wc.block ?_
          refine Wc.seq ?_
          refine Wc.region rfl ?_
          refine Wo.p .no rfl (.move rfl) ?_
          refine Wo.p .no rfl (.ixa (j := 1) rfl rfl ae_38 (by decide)) ?_
          refine Wo.ld .no rfl (.s rfl .hd a_3 rfl) ?_
          refine Wo.callV .no rfl rfl rfl (in_ok _ _ _ _) ?_
          refine Wo.p .no rfl (.not rfl) ?_
          refine Wo.nil (sq_n ?_)
          refine Wc.cond rfl (fun h7 => ?_) (fun h7 => ?_)
          · have kh7 := h7; (try simp only [Bool.not_eq_true', Bool.not_eq_false', Bool.not_eq_true, Bool.not_eq_false, decide_eq_true_eq, decide_eq_false_iff_not, Int.not_lt, Int.not_le, Bool.not_eq_eq_eq_not, Bool.not_true, Bool.not_false] at kh7)
            refine Wc.seq ?_
            refine Wc.region rfl ?_
            refine Wo.p .no rfl (.assign rfl) ?_
            refine Wo.p .no rfl (.assign rfl) ?_
            refine Wo.nil (sq_n ?_)
            refine Wc.ret (bq_r (sq_r (sq_r (bq_r (sq_r ?_)))))
            refine retQ_r (Le.refl _) (.tmp rfl (.tmp rfl .nil)) rfl ?_
            first
              | (rw [tonR_no (by rw [tonE_err (by with_reducible assumption)]; assumption), tonE_err (by with_reducible assumption)])
              | (rw [tonR_no (by rw [tonE_ver (by with_reducible assumption) (by with_reducible assumption)]; decide), tonE_ver (by with_reducible assumption) (by with_reducible assumption)])
              | (rw [tonR_no (by rw [tonE_arg (by with_reducible assumption) (by with_reducible assumption) (.inl (by with_reducible assumption))]; decide), tonE_arg (by with_reducible assumption) (by with_reducible assumption) (.inl (by with_reducible assumption))])
              | (have ho : okX x0 x1 x2 x3 x4 = false := by unfold okX; simp only [*]; simp
                 rw [tonR_no (by rw [tonE_arg (by with_reducible assumption) (by with_reducible assumption) (.inr ho)]; decide), tonE_arg (by with_reducible assumption) (by with_reducible assumption) (.inr ho)])
              | (have ho : okX x0 x1 x2 x3 x4 = true := by unfold okX; simp only [*]; simp
                 have hz := tonE_ok (fo := fo) (x0 := x0) (x1 := x1) (x2 := x2) (x3 := x3) (x4 := x4) ‹c.err = 0› ‹within ver 0 _ = true› ‹within fo 0 1 = true› ho
                 rw [hz, ← rton_leaf hz (by with_reducible assumption)])
          · have kh7 := h7; (try simp only [Bool.not_eq_true', Bool.not_eq_false', Bool.not_eq_true, Bool.not_eq_false, decide_eq_true_eq, decide_eq_false_iff_not, Int.not_lt, Int.not_le, Bool.not_eq_eq_eq_not, Bool.not_true, Bool.not_false] at kh7)
            refine Wc.skip (bq_n (sq_n ?_))
            refine Wc.region rfl ?_
            refine Wo.p .no rfl (.move rfl) ?_
            refine Wo.p .no rfl (.addL (c := 2) rfl rfl rfl (by decide)) ?_
            refine Wo.p .no rfl (.assign rfl) ?_
            refine Wo.nil (sq_n ?_)
            refine Wc.unroll ?_
            refine Wc.seq ?_
            refine Wc.seq ?_
            refine Wc.region rfl ?_
            refine Wo.p .no rfl (.move rfl) ?_
            refine Wo.p .no rfl (.bin rfl rfl rfl) ?_
            refine Wo.nil (sq_n ?_)
            refine Wc.condT rfl (by decide) ?_
            refine Wc.skip (sq_n ?_)
            refine Wc.seq ?_
            refine Wc.block ?_
            refine Wc.seq ?_
            refine Wc.region rfl ?_
            refine Wo.p .no rfl (.move rfl) ?_
            refine Wo.p .no rfl (.ixa (j := 2) rfl rfl ae_38 (by decide)) ?_
            refine Wo.ld .no rfl (.s rfl .hd a_3 rfl) ?_
            refine Wo.callV .no rfl rfl rfl (in_ok _ _ _ _) ?_
            refine Wo.p .no rfl (.not rfl) ?_
            refine Wo.nil (sq_n ?_)
            refine Wc.cond rfl (fun h8 => ?_) (fun h8 => ?_)
            · have kh8 := h8; (try simp only [Bool.not_eq_true', Bool.not_eq_false', Bool.not_eq_true, Bool.not_eq_false, decide_eq_true_eq, decide_eq_false_iff_not, Int.not_lt, Int.not_le, Bool.not_eq_eq_eq_not, Bool.not_true, Bool.not_false] at kh8)
              refine Wc.seq ?_
              refine Wc.region rfl ?_
              refine Wo.p .no rfl (.assign rfl) ?_
              refine Wo.p .no rfl (.assign rfl) ?_
              refine Wo.nil (sq_n ?_)
              refine Wc.ret (bq_r (sq_r (sq_r (bq_r (sq_r ?_)))))
              refine retQ_r (Le.refl _) (.tmp rfl (.tmp rfl .nil)) rfl ?_
              first
                | (rw [tonR_no (by rw [tonE_err (by with_reducible assumption)]; assumption), tonE_err (by with_reducible assumption)])
                | (rw [tonR_no (by rw [tonE_ver (by with_reducible assumption) (by with_reducible assumption)]; decide), tonE_ver (by with_reducible assumption) (by with_reducible assumption)])
                | (rw [tonR_no (by rw [tonE_arg (by with_reducible assumption) (by with_reducible assumption) (.inl (by with_reducible assumption))]; decide), tonE_arg (by with_reducible assumption) (by with_reducible assumption) (.inl (by with_reducible assumption))])
                | (have ho : okX x0 x1 x2 x3 x4 = false := by unfold okX; simp only [*]; simp
                   rw [tonR_no (by rw [tonE_arg (by with_reducible assumption) (by with_reducible assumption) (.inr ho)]; decide), tonE_arg (by with_reducible assumption) (by with_reducible assumption) (.inr ho)])
                | (have ho : okX x0 x1 x2 x3 x4 = true := by unfold okX; simp only [*]; simp
                   have hz := tonE_ok (fo := fo) (x0 := x0) (x1 := x1) (x2 := x2) (x3 := x3) (x4 := x4) ‹c.err = 0› ‹within ver 0 _ = true› ‹within fo 0 1 = true› ho
                   rw [hz, ← rton_leaf hz (by with_reducible assumption)])
            · have kh8 := h8; (try simp only [Bool.not_eq_true', Bool.not_eq_false', Bool.not_eq_true, Bool.not_eq_false, decide_eq_true_eq, decide_eq_false_iff_not, Int.not_lt, Int.not_le, Bool.not_eq_eq_eq_not, Bool.not_true, Bool.not_false] at kh8)
              refine Wc.skip (bq_n (sq_n ?_))
              refine Wc.region rfl ?_
              refine Wo.p .no rfl (.move rfl) ?_
              refine Wo.p .no rfl (.addL (c := 3) rfl rfl rfl (by decide)) ?_
              refine Wo.p .no rfl (.assign rfl) ?_
              refine Wo.nil (sq_n ?_)
              refine Wc.unroll ?_
              refine Wc.seq ?_
              refine Wc.seq ?_
              refine Wc.region rfl ?_
              refine Wo.p .no rfl (.move rfl) ?_
              refine Wo.p .no rfl (.bin rfl rfl rfl) ?_
              refine Wo.nil (sq_n ?_)
              refine Wc.condT rfl (by decide) ?_
              refine Wc.skip (sq_n ?_)
              refine Wc.seq ?_
              refine Wc.block ?_
              refine Wc.seq ?_
              refine Wc.region rfl ?_
              refine Wo.p .no rfl (.move rfl) ?_
              refine Wo.p .no rfl (.ixa (j := 3) rfl rfl ae_38 (by decide)) ?_
              refine Wo.ld .no rfl (.s rfl .hd a_3 rfl) ?_
              refine Wo.callV .no rfl rfl rfl (in_ok _ _ _ _) ?_
              refine Wo.p .no rfl (.not rfl) ?_
              refine Wo.nil (sq_n ?_)
              refine Wc.cond rfl (fun h9 => ?_) (fun h9 => ?_)
              · have kh9 := h9; (try simp only [Bool.not_eq_true', Bool.not_eq_false', Bool.not_eq_true, Bool.not_eq_false, decide_eq_true_eq, decide_eq_false_iff_not, Int.not_lt, Int.not_le, Bool.not_eq_eq_eq_not, Bool.not_true, Bool.not_false] at kh9)
                refine Wc.seq ?_
                refine Wc.region rfl ?_
                refine Wo.p .no rfl (.assign rfl) ?_
                refine Wo.p .no rfl (.assign rfl) ?_
                refine Wo.nil (sq_n ?_)
                refine Wc.ret (bq_r (sq_r (sq_r (bq_r (sq_r ?_)))))
                refine retQ_r (Le.refl _) (.tmp rfl (.tmp rfl .nil)) rfl ?_
                first
                  | (rw [tonR_no (by rw [tonE_err (by with_reducible assumption)]; assumption), tonE_err (by with_reducible assumption)])
                  | (rw [tonR_no (by rw [tonE_ver (by with_reducible assumption) (by with_reducible assumption)]; decide), tonE_ver (by with_reducible assumption) (by with_reducible assumption)])
                  | (rw [tonR_no (by rw [tonE_arg (by with_reducible assumption) (by with_reducible assumption) (.inl (by with_reducible assumption))]; decide), tonE_arg (by with_reducible assumption) (by with_reducible assumption) (.inl (by with_reducible assumption))])
                  | (have ho : okX x0 x1 x2 x3 x4 = false := by unfold okX; simp only [*]; simp
                     rw [tonR_no (by rw [tonE_arg (by with_reducible assumption) (by with_reducible assumption) (.inr ho)]; decide), tonE_arg (by with_reducible assumption) (by with_reducible assumption) (.inr ho)])
                  | (have ho : okX x0 x1 x2 x3 x4 = true := by unfold okX; simp only [*]; simp
                     have hz := tonE_ok (fo := fo) (x0 := x0) (x1 := x1) (x2 := x2) (x3 := x3) (x4 := x4) ‹c.err = 0› ‹within ver 0 _ = true› ‹within fo 0 1 = true› ho
                     rw [hz, ← rton_leaf hz (by with_reducible assumption)])
              · have kh9 := h9; (try simp only [Bool.not_eq_true', Bool.not_eq_false', Bool.not_eq_true, Bool.not_eq_false, decide_eq_true_eq, decide_eq_false_iff_not, Int.not_lt, Int.not_le, Bool.not_eq_eq_eq_not, Bool.not_true, Bool.not_false] at kh9)
                refine Wc.skip (bq_n (sq_n ?_))
                refine Wc.region rfl ?_
                refine Wo.p .no rfl (.move rfl) ?_
                refine Wo.p .no rfl (.addL (c := 4) rfl rfl rfl (by decide)) ?_
                refine Wo.p .no rfl (.assign rfl) ?_
                refine Wo.nil (sq_n ?_)
                refine Wc.unroll ?_
                refine Wc.seq ?_
                refine Wc.seq ?_
                refine Wc.region rfl ?_
                refine Wo.p .no rfl (.move rfl) ?_
                refine Wo.p .no rfl (.bin rfl rfl rfl) ?_
                refine Wo.nil (sq_n ?_)
                refine Wc.condT rfl (by decide) ?_
                refine Wc.skip (sq_n ?_)
                refine Wc.seq ?_
                refine Wc.block ?_
                refine Wc.seq ?_
                refine Wc.region rfl ?_
                refine Wo.p .no rfl (.move rfl) ?_
                refine Wo.p .no rfl (.ixa (j := 4) rfl rfl ae_38 (by decide)) ?_
                refine Wo.ld .no rfl (.s rfl .hd a_3 rfl) ?_
                refine Wo.callV .no rfl rfl rfl (in_ok _ _ _ _) ?_
                refine Wo.p .no rfl (.not rfl) ?_
                refine Wo.nil (sq_n ?_)
                refine Wc.cond rfl (fun h10 => ?_) (fun h10 => ?_)
                · have kh10 := h10; (try simp only [Bool.not_eq_true', Bool.not_eq_false', Bool.not_eq_true, Bool.not_eq_false, decide_eq_true_eq, decide_eq_false_iff_not, Int.not_lt, Int.not_le, Bool.not_eq_eq_eq_not, Bool.not_true, Bool.not_false] at kh10)
                  refine Wc.seq ?_
                  refine Wc.region rfl ?_
                  refine Wo.p .no rfl (.assign rfl) ?_
                  refine Wo.p .no rfl (.assign rfl) ?_
                  refine Wo.nil (sq_n ?_)
                  refine Wc.ret (bq_r (sq_r (sq_r (bq_r (sq_r ?_)))))
                  refine retQ_r (Le.refl _) (.tmp rfl (.tmp rfl .nil)) rfl ?_
                  first
                    | (rw [tonR_no (by rw [tonE_err (by with_reducible assumption)]; assumption), tonE_err (by with_reducible assumption)])
                    | (rw [tonR_no (by rw [tonE_ver (by with_reducible assumption) (by with_reducible assumption)]; decide), tonE_ver (by with_reducible assumption) (by with_reducible assumption)])
                    | (rw [tonR_no (by rw [tonE_arg (by with_reducible assumption) (by with_reducible assumption) (.inl (by with_reducible assumption))]; decide), tonE_arg (by with_reducible assumption) (by with_reducible assumption) (.inl (by with_reducible assumption))])
                    | (have ho : okX x0 x1 x2 x3 x4 = false := by unfold okX; simp only [*]; simp
                       rw [tonR_no (by rw [tonE_arg (by with_reducible assumption) (by with_reducible assumption) (.inr ho)]; decide), tonE_arg (by with_reducible assumption) (by with_reducible assumption) (.inr ho)])
                    | (have ho : okX x0 x1 x2 x3 x4 = true := by unfold okX; simp only [*]; simp
                       have hz := tonE_ok (fo := fo) (x0 := x0) (x1 := x1) (x2 := x2) (x3 := x3) (x4 := x4) ‹c.err = 0› ‹within ver 0 _ = true› ‹within fo 0 1 = true› ho
                       rw [hz, ← rton_leaf hz (by with_reducible assumption)])
                · have kh10 := h10; (try simp only [Bool.not_eq_true', Bool.not_eq_false', Bool.not_eq_true, Bool.not_eq_false, decide_eq_true_eq, decide_eq_false_iff_not, Int.not_lt, Int.not_le, Bool.not_eq_eq_eq_not, Bool.not_true, Bool.not_false] at kh10)
                  refine Wc.skip (bq_n (sq_n ?_))
                  refine Wc.region rfl ?_
                  refine Wo.p .no rfl (.move rfl) ?_
                  refine Wo.p .no rfl (.addL (c := 5) rfl rfl rfl (by decide)) ?_
                  refine Wo.p .no rfl (.assign rfl) ?_
                  refine Wo.nil (sq_n ?_)
                  refine Wc.unroll ?_
                  refine Wc.seq ?_
                  refine Wc.seq ?_
                  refine Wc.region rfl ?_
                  refine Wo.p .no rfl (.move rfl) ?_
                  refine Wo.p .no rfl (.bin rfl rfl rfl) ?_
                  refine Wo.nil (sq_n ?_)
                  refine Wc.condF rfl (by decide) ?_
                  refine Wc.exit (sq_e (sq_e (bq_x rfl (sq_n ?_))))
                  refine Wc.seq ?_
                  refine Wc.draw (tb := [⟨0, 0, false⟩, ⟨1, 0, false⟩, ⟨0, 0, false⟩, ⟨7, 0, false⟩, ⟨15, 0, false⟩, ⟨0, 0, false⟩, ⟨0, 0, false⟩, ⟨127, 0, true⟩, ⟨255, 1, true⟩, ⟨511, 1, true⟩]) rfl (by kernel_rfl) (by kernel_rfl) ?_
                  refine Wd.p .no rfl (.fa rfl f_24_1) rfl rfl rfl ?_
                  refine Wd.ld (k := 0) .no rfl rfl rfl trivial (.s rfl (.tl .hd) a_22 rfl) ?_
                  refine Wd.p .no rfl (.move rfl) rfl rfl rfl ?_
                  refine Wd.ixi .no rfl rfl h rfl e_22 (ver_ix (by with_reducible assumption)) ?_
                  intro b11 o11 cs11 y11 hy11 hq11 hr11
                  obtain ⟨p11, lv11, rfl, hp11, hl11⟩ := hr11
                  refine Wd.ld (k := 0) .no rfl rfl rfl trivial (.pa 0 (vs := [_, _, _, _, _, _, _, _, _, _, _, _]) rfl hq11 rfl a_97 s_97 rfl rfl) ?_
                  refine Wd.p .no rfl (.move rfl) rfl rfl rfl ?_
                  refine Wd.ld (k := 0) .no rfl rfl rfl trivial (.a (vs := [_, _, _, _, _]) rfl .hd a_38 s_38 rfl rfl) ?_
                  refine Wd.callV .no rfl rfl rfl rfl rfl (rtonnage_ok _ _ _ _ _ _ _ _ _ ⟨_, _, rfl, hp11, hl11⟩ (fo01 (by with_reducible assumption))) ?_
                  refine Wd.p .no rfl (.assign rfl) rfl rfl rfl ?_
                  refine Wd.p .no rfl (.assign rfl) rfl rfl rfl ?_
                  refine Wd.nil (sq_n ?_)
                  refine Wc.ret ?_
                  refine retQ_r (Le.refl _) (.tmp rfl (.tmp rfl .nil)) rfl ?_
                  first
                    | (rw [tonR_no (by rw [tonE_err (by with_reducible assumption)]; assumption), tonE_err (by with_reducible assumption)])
                    | (rw [tonR_no (by rw [tonE_ver (by with_reducible assumption) (by with_reducible assumption)]; decide), tonE_ver (by with_reducible assumption) (by with_reducible assumption)])
                    | (rw [tonR_no (by rw [tonE_arg (by with_reducible assumption) (by with_reducible assumption) (.inl (by with_reducible assumption))]; decide), tonE_arg (by with_reducible assumption) (by with_reducible assumption) (.inl (by with_reducible assumption))])
                    | (have ho : okX x0 x1 x2 x3 x4 = false := by unfold okX; simp only [*]; simp
                       rw [tonR_no (by rw [tonE_arg (by with_reducible assumption) (by with_reducible assumption) (.inr ho)]; decide), tonE_arg (by with_reducible assumption) (by with_reducible assumption) (.inr ho)])
                    | (have ho : okX x0 x1 x2 x3 x4 = true := by unfold okX; simp only [*]; simp
                       have hz := tonE_ok (fo := fo) (x0 := x0) (x1 := x1) (x2 := x2) (x3 := x3) (x4 := x4) ‹c.err = 0› ‹within ver 0 _ = true› ‹within fo 0 1 = true› ho
                       rw [hz, ← rton_leaf hz (by with_reducible assumption)])
--REG r4.Tonnage {'mode':'V','term':'(rTonnage_ok _ _ _ _ _ _ _ _ _ _ {0})','val':lambda s,n:V('tup',vals=[V('int'),V('int')])}
/-! package code's values are the reference's, on valid lines -/
theorem rv_pv (n : Int) : ∀ (r : List Piece) (k : Nat) (p : Piece) (l : List Piece), l.drop k = p :: r → ∃ q, l[pixF n r k]? = some q ∧ rvF n r (p.val n) = q.val n
  | [], k, p, l, h => by
    refine ⟨p, ?_, rfl⟩
    have : l[k]? = (l.drop k)[0]? := by rw [List.getElem?_drop]; rfl
    simp only [pixF]
    rw [this, h]; rfl
  | q :: r, k, p, l, h => by
    unfold pixF rvF
    by_cases hq : q.fr ≤ n
    · rw [if_pos hq, if_pos hq]
      refine rv_pv n r (k + 1) q l ?_
      rw [← List.drop_drop, h]; rfl
    · rw [if_neg hq, if_neg hq]
      refine ⟨p, ?_, rfl⟩
      have : l[k]? = (l.drop k)[0]? := by rw [List.getElem?_drop]; rfl
      rw [this, h]; rfl
theorem lineB_first {l : List Piece} {p : Piece} (h : lineB l = true) (hp : l[0]? = some p) : p.fr = 0 := by
  unfold lineB at h
  simp only [Bool.and_eq_true] at h
  have h0 : 0 < l.length := (List.getElem?_eq_some_iff.1 hp).1
  have := allR_get h.2 h0
  unfold pgood at this
  rw [hp] at this
  simp only [if_true, Bool.and_eq_true, decide_eq_true_eq] at this
  exact this.2.2.2
theorem clos_ref {l : List Piece} {n : Int} (h : lineB l = true) (hn : 0 ≤ n) : closV l n = refV l n := by
  cases l with
  | nil => rfl
  | cons p r =>
    have hp := lineB_first h (p := p) rfl
    obtain ⟨q, h1, h2⟩ := rv_pv n r 0 p (p :: r) rfl
    unfold closV refV pix rvF
    rw [if_pos (by omega), h2]
    show (match (p :: r)[pixF n r 0]? with | some p => p.val n | none => 0) = _
    rw [h1]
theorem err_ok {c : Code} (h : c.err = 0) : c.ok = true := by
  unfold Code.err at h
  cases e : c.ok with
  | true => rfl
  | false => rw [e] at h; cases h
theorem ver_ok {c : Code} (h : c.ok = true) {k : Nat} {v : Version} (hv : c.vs[k]? = some v) : v.ok = true := by
  unfold Code.ok at h
  simp only [Bool.and_eq_true] at h
  have := allR_get h.2.2 (List.getElem?_eq_some_iff.1 hv).1
  unfold vgood at this
  rw [hv] at this
  simp only [Bool.and_eq_true] at this
  exact this.1
theorem line_ok {v : Version} (h : v.ok = true) {k : Nat} (hk : k < 10) : lineB (v.ln k) = true := by
  unfold Version.ok at h
  simp only [Bool.and_eq_true] at h
  exact allR_get h.2.2.2 hk
theorem atE_zero {c : Code} {i : Int} (h : atE c.err c i = 0) : c.ok = true ∧ 0 ≤ i ∧ i < c.vs.length := by
  have h1 := (failE_zero (by decide) h).1
  exact ⟨err_ok h1, at_ix h⟩
theorem valR_eq (c : Code) (ver fo gr li : Int) : valR closV c ver fo gr li = valR refV c ver fo gr li := by
  unfold valR
  by_cases h : valE c ver fo gr li = 0
  · rw [if_pos h, if_pos h]
    obtain ⟨h1, h2, h3, h4⟩ := valE_zero h
    obtain ⟨h5, h6⟩ := atE_zero h1
    have hi : ver.toNat < c.vs.length := by omega
    have hy := List.getElem?_eq_getElem hi
    refine clos_ref (line_ok (ver_ok h5 (k := ver.toNat) ?_) (by unfold lnX; omega)) ?_
    · rw [List.getD_eq_getElem?_getD, hy]; rfl
    · simp only [within, Bool.and_eq_true, decide_eq_true_eq] at h4; exact h4.1
  · rw [if_neg h, if_neg h]
theorem tonR_eq (c : Code) (ver fo x0 x1 x2 x3 x4 : Int) : tonR closV c ver fo x0 x1 x2 x3 x4 = tonR refV c ver fo x0 x1 x2 x3 x4 := by
  unfold tonR
  by_cases h : tonE c ver fo x0 x1 x2 x3 x4 = 0
  · rw [if_pos h, if_pos h]
    obtain ⟨h1, h2, h3⟩ := tonE_zero h
    obtain ⟨h5, h6⟩ := atE_zero h1
    have hi : ver.toNat < c.vs.length := by omega
    have hy := List.getElem?_eq_getElem hi
    have hv : (c.vs.getD ver.toNat .none).ok = true := ver_ok h5 (k := ver.toNat) (by rw [List.getD_eq_getElem?_getD, hy]; rfl)
    simp only [okX, within, Bool.and_eq_true, decide_eq_true_eq] at h3
    unfold tonS
    rw [clos_ref (line_ok hv (by omega)) h3.1.1, clos_ref (line_ok hv (by omega)) h3.2.1.1, clos_ref (line_ok hv (by omega)) h3.2.2.1.1, clos_ref (line_ok hv (by omega)) h3.2.2.2.1.1, clos_ref (line_ok hv (by omega)) h3.2.2.2.2.1]
  · rw [if_neg h, if_neg h]
end Go.Proofs.YtjflgemfeofciaaGreatDoor
