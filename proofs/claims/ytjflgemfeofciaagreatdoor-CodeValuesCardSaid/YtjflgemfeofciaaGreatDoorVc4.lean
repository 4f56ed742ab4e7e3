import Derived.Test.YtjflgemfeofciaaGreatDoorVb4
/- Layer 4: Value and Tonnage. -/
namespace Go.Proofs.YtjflgemfeofciaaGreatDoor
open Go Go.Ev
set_option linter.unusedVariables false
set_option linter.unusedSimpArgs false
set_option maxRecDepth 10000
theorem isGroup_ok (n : Int) (g : G) : Fv Tryz.prog natS (.f 89 [] []) [.i .i64 n] g (.b (within n 1 5)) := by
  refine Fw.fv ?_
  refine Fw.enter (N := 5) (al := [(0, _)]) Tryz.func89 (by kernel_rfl) (by kernel_rfl) rfl rfl rfl rfl ?_
  intro B
  refine Wc.seq ?_
  refine Wc.region rfl ?_
  refine Wo.p .no rfl (.assign rfl) ?_
  refine Wo.nil (sq_n ?_)
  refine Wc.seq ?_
  refine Wc.region rfl ?_
  refine Wo.p .no rfl (.move rfl) ?_
  refine Wo.callV .no rfl rfl rfl (isWithin_ok _ _ _ _) ?_
  refine Wo.p .no rfl (.assign rfl) ?_
  refine Wo.nil (sq_n ?_)
  refine Wc.ret ?_
  refine retQ_r (Le.refl _) (.tmp rfl .nil) rfl ?_
  rfl
--REG c.isGroup V (isGroup_ok _ _)
def valE (c : Code) (ver fo gr li : Int) : Int := failE (byE (atE c.err c ver) fo) (!within gr 1 5 || !within li 0 20000000000) 1
theorem byE_zero {e f : Int} (h : byE e f = 0) : e = 0 ∧ (f = 0 ∨ f = 1) := by
  obtain ⟨h1, h2⟩ := failE_zero (by decide) h
  refine ⟨h1, ?_⟩
  by_cases h3 : f = 0
  · exact .inl h3
  · by_cases h4 : f = 1
    · exact .inr h4
    · rw [decide_eq_false h3, decide_eq_false h4] at h2; cases h2
theorem valE_zero {c : Code} {ver fo gr li : Int} (h : valE c ver fo gr li = 0) : atE c.err c ver = 0 ∧ (fo = 0 ∨ fo = 1) ∧ (1 ≤ gr ∧ gr ≤ 5) ∧ within li 0 20000000000 = true := by
  obtain ⟨h1, h2⟩ := failE_zero (by decide) h
  obtain ⟨h3, h4⟩ := byE_zero h1
  simp only [Bool.or_eq_false_iff, Bool.not_eq_false'] at h2
  refine ⟨h3, h4, ?_, h2.2⟩
  have := h2.1
  simp only [within, Bool.and_eq_true, decide_eq_true_eq] at this
  exact this
theorem fo2 {fo : Int} (h : fo = 0 ∨ fo = 1) : 0 ≤ fo ∧ fo < 2 := by omega
theorem gr5 {gr : Int} (h : 1 ≤ gr ∧ gr ≤ 5) : 0 ≤ gr - 1 ∧ gr - 1 < 5 := by omega
def lnX (fo gr : Int) : Nat := 5 * fo.toNat + (gr - 1).toNat
def valR (f : List Piece → Int → Int) (c : Code) (ver fo gr li : Int) : Int := if valE c ver fo gr li = 0 then f ((c.vs.getD ver.toNat .none).ln (lnX fo gr)) li else 0
theorem valR_no {f : List Piece → Int → Int} {c : Code} {ver fo gr li : Int} (h : ¬ valE c ver fo gr li = 0) : valR f c ver fo gr li = 0 := if_neg h
theorem valE_a {c : Code} {ver fo gr li : Int} (h : (!within gr 1 5) = true) : failE (byE (atE c.err c ver) fo) true 1 = valE c ver fo gr li := by unfold valE; rw [h]; rfl
theorem valE_b {c : Code} {ver fo gr li : Int} (h : (!within gr 1 5) = false) : failE (byE (atE c.err c ver) fo) (!within li 0 20000000000) 1 = valE c ver fo gr li := by unfold valE; rw [h]; rfl
theorem atV_ln {c : Code} {e i : Int} {v : Version} (h : atE e c i = 0) : atV e c i v = c.vs.getD i.toNat .none := if_pos h
theorem val_leaf {f : List Piece → Int → Int} {c : Code} {ver fo gr li : Int} {a b : Nat} (hz : valE c ver fo gr li = 0) (e1 : fo = (a : Int)) (e2 : gr - 1 = (b : Int)) {k : Nat} (hk : k = 5 * a + b) : f ((atV c.err c ver .none).ln k) li = valR f c ver fo gr li := by
  unfold valR
  rw [if_pos hz, atV_ln (valE_zero hz).1, hk]
  unfold lnX
  rw [e1, e2, Int.toNat_natCast, Int.toNat_natCast]
theorem Value_ok (c : Code) (ver fo gr li : Int) (cs : List V) (g : G) (h : CodeR g cs c) : Fv Tryz.prog natS (.f 28 [] []) [.agg cs, .i .i64 ver, .i .i64 fo, .i .i64 gr, .i .i64 li] g (.tup [.i .i64 (valR closV c ver fo gr li), .i .i64 (valE c ver fo gr li)]) := by
  obtain ⟨v, rfl, h⟩ := h
  refine Fw.fv ?_
  refine Fw.enter (N := 50) (al := [(4, _), (3, _), (2, _), (1, _), (0, _)]) Tryz.func28 (by kernel_rfl) (by kernel_rfl) rfl rfl rfl rfl ?_
  intro B
  refine Wc.seq ?_
  refine Wc.region rfl ?_
  refine Wo.box .no rfl rfl rfl rfl (fun b1 => ?_)
  refine Wo.p .no rfl (.assign rfl) ?_
  refine Wo.p .no rfl (.assign rfl) ?_
  refine Wo.nil (sq_n ?_)
  refine Wc.seq ?_
  refine Wc.region rfl ?_
  refine Wo.ld .no rfl (.a (vs := [_, _]) rfl .hd a_24 s_24 rfl rfl) ?_
  refine Wo.call .no rfl rfl rfl (of_ok _ _ _ ⟨_, rfl, h⟩) ?_
  rintro g2 ml2 r2 hle2 ⟨b2, cs2, rfl, rfl, rfl, vv2, p2, lv2, rfl, hv2, hp2, hl2⟩
  refine Wo.p .no rfl (.move rfl) ?_
  refine Wo.callT .no rfl rfl rfl .hd (at_ok _ _ _ _ _ _ _ _ ⟨_, _, _, rfl, hv2, hp2, hl2⟩) ?_
  rintro g3 ml3 r3 hle3 ⟨cs3, rfl, rfl, rfl, vv3, p3, lv3, rfl, hv3, hp3, hl3⟩
  replace hv2 := hv2.mono VersionR.mono hle3
  replace hp2 := hp2.mono PutR.mono hle3
  replace hl2 := fun k hk => (hl2 k hk).mono PieceR.mono hle3
  refine Wo.p .no rfl (.move rfl) ?_
  refine Wo.callR .no rfl rfl rfl .hd (by_ok _ _ _ _ _ _ _ _ _ _ _ _ _ _ _ _ _ _ _) ?_
  refine Wo.p .no rfl (.move rfl) ?_
  refine Wo.callV .no rfl rfl rfl (isGroup_ok _ _) ?_
  refine Wo.p .no rfl (.not rfl) ?_
  refine Wo.p .no rfl (.move rfl) ?_
  refine Wo.split (t := 22) rfl (fun h4 => ?_) (fun h4 => ?_)
  · have kh4 := h4; (try simp only [Bool.not_eq_true', Bool.not_eq_false', Bool.not_eq_true, Bool.not_eq_false, decide_eq_true_eq, decide_eq_false_iff_not, Int.not_lt, Int.not_le, Bool.not_eq_eq_eq_not, Bool.not_true, Bool.not_false] at kh4)
    refine Wo.skip (.yes rfl rfl h4) rfl ?_
    refine Wo.skip (.yes rfl rfl h4) rfl ?_
    refine Wo.skip (.yes rfl rfl h4) rfl ?_
    refine Wo.p .no rfl (.pickT rfl h4 rfl) ?_
    refine Wo.callR .no rfl rfl rfl .hd (fail_ok _ _ _ _ _ _ _ _ _ _ _ _ _ _ _ _ _ _ _ _) ?_
    refine Wo.p .no rfl (.assign rfl) ?_
    refine Wo.nil (sq_n ?_)
    refine Wc.seq ?_
    refine Wc.seq ?_
    refine Wc.region rfl ?_
    refine Wo.p .no rfl (.move rfl) ?_
    refine Wo.p .no rfl (.nil rfl) ?_
    refine Wo.p .no rfl (.fa rfl f_132_3) ?_
    refine Wo.ld .no rfl (.s rfl .hd a_30 rfl) ?_
    refine Wo.p .no rfl (.bin rfl rfl rfl) ?_
    refine Wo.nil (sq_n ?_)
    refine Wc.cond rfl (fun h5 => ?_) (fun h5 => ?_)
    · have kh5 := h5; (try simp only [Bool.not_eq_true', Bool.not_eq_false', Bool.not_eq_true, Bool.not_eq_false, decide_eq_true_eq, decide_eq_false_iff_not, Int.not_lt, Int.not_le, Bool.not_eq_eq_eq_not, Bool.not_true, Bool.not_false] at kh5)
      have hz : ¬ valE c ver fo gr li = 0 := by first | exact fun e => kh5 ((valE_a (li := li) (by with_reducible assumption)).trans e) | exact fun e => kh5 ((valE_b (li := li) (by with_reducible assumption)).trans e)
      refine Wc.seq ?_
      refine Wc.draw (tb := [⟨0, 0, true⟩, ⟨1, 0, true⟩, ⟨3, 0, true⟩, ⟨7, 0, true⟩, ⟨0, 0, false⟩, ⟨31, 0, true⟩]) rfl (by kernel_rfl) (by kernel_rfl) ?_
      refine Wd.p .no rfl (.move rfl) rfl rfl rfl ?_
      refine Wd.p .no rfl (.nil rfl) rfl rfl rfl ?_
      refine Wd.p .no rfl (.fa rfl f_132_3) rfl rfl rfl ?_
      refine Wd.ld (k := 0) .no rfl rfl rfl trivial (.s rfl .hd a_30 rfl) ?_
      refine Wd.p .no rfl (.assign rfl) rfl rfl rfl ?_
      refine Wd.p .no rfl (.assign rfl) rfl rfl rfl ?_
      refine Wd.nil (sq_n ?_)
      refine Wc.ret (sq_r ?_)
      refine retQ_r (hle2.trans hle3) (.tmp rfl (.tmp rfl .nil)) rfl ?_
      first
        | (rw [valR_no hz]; first | rw [← valE_a (li := li) (by with_reducible assumption)] | rw [← valE_b (li := li) (by with_reducible assumption)])
        | (rw [hz, ← val_leaf hz ‹fo = _› ‹gr - 1 = _› rfl])
    · have kh5 := h5; (try simp only [Bool.not_eq_true', Bool.not_eq_false', Bool.not_eq_true, Bool.not_eq_false, decide_eq_true_eq, decide_eq_false_iff_not, Int.not_lt, Int.not_le, Bool.not_eq_eq_eq_not, Bool.not_true, Bool.not_false] at kh5)
      have hz : valE c ver fo gr li = 0 := by first | exact (valE_a (li := li) (by with_reducible assumption)).symm.trans kh5 | exact (valE_b (li := li) (by with_reducible assumption)).symm.trans kh5
      obtain ⟨hz1, hz2, hz3, hz4⟩ := valE_zero hz
      refine Wc.skip (sq_n ?_)
      refine Wc.seq ?_
      refine Wc.region rfl ?_
      refine Wo.p .no rfl (.move rfl) ?_
      refine Wo.p .no rfl (.move rfl) ?_
      refine Wo.p .no rfl (.move rfl) ?_
      refine Wo.p .no rfl (.sub rfl rfl (by omega)) ?_
      refine Wo.p .no rfl (.nil rfl) ?_
      refine Wo.p .no rfl (.fa rfl f_132_1) ?_
      refine Wo.p .no rfl (.fa rfl f_97_2) ?_
      rcases (case2 (fo2 hz2)) with e6 | e6
      · have ke6 := e6
        refine Wo.p .no rfl (.ixae (q := 0) rfl rfl e6 ae_95 (by decide)) ?_
        rcases (case5 (gr5 hz3)) with e7 | e7 | e7 | e7 | e7
        · have ke7 := e7
          refine Wo.p .no rfl (.ixae (q := 0) rfl rfl e7 ae_94 (by decide)) ?_
          refine Wo.ld .no rfl (.s rfl .hd a_93 rfl) ?_
          refine Wo.call .no rfl rfl rfl (compiled_ok _ (hl3 0 (by decide)).any (hl3 0 (by decide)).cells _) ?_
          rintro g8 ml8 r8 hle8 ⟨b8, rfl, rfl, hb8⟩
          replace hv2 := hv2.mono VersionR.mono hle8
          replace hp2 := hp2.mono PutR.mono hle8
          replace hl2 := fun k hk => (hl2 k hk).mono PieceR.mono hle8
          replace hv3 := hv3.mono VersionR.mono hle8
          replace hp3 := hp3.mono PutR.mono hle8
          replace hl3 := fun k hk => (hl3 k hk).mono PieceR.mono hle8
          refine Wo.p .no rfl (.move rfl) ?_
          refine Wo.callV .no rfl rfl rfl (closure_ok _ _ _ _ _ hb8 (hl3 0 (by decide))) ?_
          refine Wo.p .no rfl (.assign rfl) ?_
          refine Wo.p .no rfl (.assign rfl) ?_
          refine Wo.nil (sq_n ?_)
          refine Wc.ret ?_
          refine retQ_r ((hle2.trans hle3).trans hle8) (.tmp rfl (.tmp rfl .nil)) rfl ?_
          first
            | (rw [valR_no hz]; first | rw [← valE_a (li := li) (by with_reducible assumption)] | rw [← valE_b (li := li) (by with_reducible assumption)])
            | (rw [hz, ← val_leaf hz ‹fo = _› ‹gr - 1 = _› rfl])
        · have ke7 := e7
          refine Wo.p .no rfl (.ixae (q := 1) rfl rfl e7 ae_94 (by decide)) ?_
          refine Wo.ld .no rfl (.s rfl .hd a_93 rfl) ?_
          refine Wo.call .no rfl rfl rfl (compiled_ok _ (hl3 1 (by decide)).any (hl3 1 (by decide)).cells _) ?_
          rintro g9 ml9 r9 hle9 ⟨b9, rfl, rfl, hb9⟩
          replace hv2 := hv2.mono VersionR.mono hle9
          replace hp2 := hp2.mono PutR.mono hle9
          replace hl2 := fun k hk => (hl2 k hk).mono PieceR.mono hle9
          replace hv3 := hv3.mono VersionR.mono hle9
          replace hp3 := hp3.mono PutR.mono hle9
          replace hl3 := fun k hk => (hl3 k hk).mono PieceR.mono hle9
          refine Wo.p .no rfl (.move rfl) ?_
          refine Wo.callV .no rfl rfl rfl (closure_ok _ _ _ _ _ hb9 (hl3 1 (by decide))) ?_
          refine Wo.p .no rfl (.assign rfl) ?_
          refine Wo.p .no rfl (.assign rfl) ?_
          refine Wo.nil (sq_n ?_)
          refine Wc.ret ?_
          refine retQ_r ((hle2.trans hle3).trans hle9) (.tmp rfl (.tmp rfl .nil)) rfl ?_
          first
            | (rw [valR_no hz]; first | rw [← valE_a (li := li) (by with_reducible assumption)] | rw [← valE_b (li := li) (by with_reducible assumption)])
            | (rw [hz, ← val_leaf hz ‹fo = _› ‹gr - 1 = _› rfl])
        · have ke7 := e7
          refine Wo.p .no rfl (.ixae (q := 2) rfl rfl e7 ae_94 (by decide)) ?_
          refine Wo.ld .no rfl (.s rfl .hd a_93 rfl) ?_
          refine Wo.call .no rfl rfl rfl (compiled_ok _ (hl3 2 (by decide)).any (hl3 2 (by decide)).cells _) ?_
          rintro g10 ml10 r10 hle10 ⟨b10, rfl, rfl, hb10⟩
          replace hv2 := hv2.mono VersionR.mono hle10
          replace hp2 := hp2.mono PutR.mono hle10
          replace hl2 := fun k hk => (hl2 k hk).mono PieceR.mono hle10
          replace hv3 := hv3.mono VersionR.mono hle10
          replace hp3 := hp3.mono PutR.mono hle10
          replace hl3 := fun k hk => (hl3 k hk).mono PieceR.mono hle10
          refine Wo.p .no rfl (.move rfl) ?_
          refine Wo.callV .no rfl rfl rfl (closure_ok _ _ _ _ _ hb10 (hl3 2 (by decide))) ?_
          refine Wo.p .no rfl (.assign rfl) ?_
          refine Wo.p .no rfl (.assign rfl) ?_
          refine Wo.nil (sq_n ?_)
          refine Wc.ret ?_
          refine retQ_r ((hle2.trans hle3).trans hle10) (.tmp rfl (.tmp rfl .nil)) rfl ?_
          first
            | (rw [valR_no hz]; first | rw [← valE_a (li := li) (by with_reducible assumption)] | rw [← valE_b (li := li) (by with_reducible assumption)])
            | (rw [hz, ← val_leaf hz ‹fo = _› ‹gr - 1 = _› rfl])
        · have ke7 := e7
          refine Wo.p .no rfl (.ixae (q := 3) rfl rfl e7 ae_94 (by decide)) ?_
          refine Wo.ld .no rfl (.s rfl .hd a_93 rfl) ?_
          refine Wo.call .no rfl rfl rfl (compiled_ok _ (hl3 3 (by decide)).any (hl3 3 (by decide)).cells _) ?_
          rintro g11 ml11 r11 hle11 ⟨b11, rfl, rfl, hb11⟩
          replace hv2 := hv2.mono VersionR.mono hle11
          replace hp2 := hp2.mono PutR.mono hle11
          replace hl2 := fun k hk => (hl2 k hk).mono PieceR.mono hle11
          replace hv3 := hv3.mono VersionR.mono hle11
          replace hp3 := hp3.mono PutR.mono hle11
          replace hl3 := fun k hk => (hl3 k hk).mono PieceR.mono hle11
          refine Wo.p .no rfl (.move rfl) ?_
          refine Wo.callV .no rfl rfl rfl (closure_ok _ _ _ _ _ hb11 (hl3 3 (by decide))) ?_
          refine Wo.p .no rfl (.assign rfl) ?_
          refine Wo.p .no rfl (.assign rfl) ?_
          refine Wo.nil (sq_n ?_)
          refine Wc.ret ?_
          refine retQ_r ((hle2.trans hle3).trans hle11) (.tmp rfl (.tmp rfl .nil)) rfl ?_
          first
            | (rw [valR_no hz]; first | rw [← valE_a (li := li) (by with_reducible assumption)] | rw [← valE_b (li := li) (by with_reducible assumption)])
            | (rw [hz, ← val_leaf hz ‹fo = _› ‹gr - 1 = _› rfl])
        · have ke7 := e7
          refine Wo.p .no rfl (.ixae (q := 4) rfl rfl e7 ae_94 (by decide)) ?_
          refine Wo.ld .no rfl (.s rfl .hd a_93 rfl) ?_
          refine Wo.call .no rfl rfl rfl (compiled_ok _ (hl3 4 (by decide)).any (hl3 4 (by decide)).cells _) ?_
          rintro g12 ml12 r12 hle12 ⟨b12, rfl, rfl, hb12⟩
          replace hv2 := hv2.mono VersionR.mono hle12
          replace hp2 := hp2.mono PutR.mono hle12
          replace hl2 := fun k hk => (hl2 k hk).mono PieceR.mono hle12
          replace hv3 := hv3.mono VersionR.mono hle12
          replace hp3 := hp3.mono PutR.mono hle12
          replace hl3 := fun k hk => (hl3 k hk).mono PieceR.mono hle12
          refine Wo.p .no rfl (.move rfl) ?_
          refine Wo.callV .no rfl rfl rfl (closure_ok _ _ _ _ _ hb12 (hl3 4 (by decide))) ?_
          refine Wo.p .no rfl (.assign rfl) ?_
          refine Wo.p .no rfl (.assign rfl) ?_
          refine Wo.nil (sq_n ?_)
          refine Wc.ret ?_
          refine retQ_r ((hle2.trans hle3).trans hle12) (.tmp rfl (.tmp rfl .nil)) rfl ?_
          first
            | (rw [valR_no hz]; first | rw [← valE_a (li := li) (by with_reducible assumption)] | rw [← valE_b (li := li) (by with_reducible assumption)])
            | (rw [hz, ← val_leaf hz ‹fo = _› ‹gr - 1 = _› rfl])
      · have ke6 := e6
        refine Wo.p .no rfl (.ixae (q := 1) rfl rfl e6 ae_95 (by decide)) ?_
        rcases (case5 (gr5 hz3)) with e13 | e13 | e13 | e13 | e13
        · have ke13 := e13
          refine Wo.p .no rfl (.ixae (q := 0) rfl rfl e13 ae_94 (by decide)) ?_
          refine Wo.ld .no rfl (.s rfl .hd a_93 rfl) ?_
          refine Wo.call .no rfl rfl rfl (compiled_ok _ (hl3 5 (by decide)).any (hl3 5 (by decide)).cells _) ?_
          rintro g14 ml14 r14 hle14 ⟨b14, rfl, rfl, hb14⟩
          replace hv2 := hv2.mono VersionR.mono hle14
          replace hp2 := hp2.mono PutR.mono hle14
          replace hl2 := fun k hk => (hl2 k hk).mono PieceR.mono hle14
          replace hv3 := hv3.mono VersionR.mono hle14
          replace hp3 := hp3.mono PutR.mono hle14
          replace hl3 := fun k hk => (hl3 k hk).mono PieceR.mono hle14
          refine Wo.p .no rfl (.move rfl) ?_
          refine Wo.callV .no rfl rfl rfl (closure_ok _ _ _ _ _ hb14 (hl3 5 (by decide))) ?_
          refine Wo.p .no rfl (.assign rfl) ?_
          refine Wo.p .no rfl (.assign rfl) ?_
          refine Wo.nil (sq_n ?_)
          refine Wc.ret ?_
          refine retQ_r ((hle2.trans hle3).trans hle14) (.tmp rfl (.tmp rfl .nil)) rfl ?_
          first
            | (rw [valR_no hz]; first | rw [← valE_a (li := li) (by with_reducible assumption)] | rw [← valE_b (li := li) (by with_reducible assumption)])
            | (rw [hz, ← val_leaf hz ‹fo = _› ‹gr - 1 = _› rfl])
        · have ke13 := e13
          refine Wo.p .no rfl (.ixae (q := 1) rfl rfl e13 ae_94 (by decide)) ?_
          refine Wo.ld .no rfl (.s rfl .hd a_93 rfl) ?_
          refine Wo.call .no rfl rfl rfl (compiled_ok _ (hl3 6 (by decide)).any (hl3 6 (by decide)).cells _) ?_
          rintro g15 ml15 r15 hle15 ⟨b15, rfl, rfl, hb15⟩
          replace hv2 := hv2.mono VersionR.mono hle15
          replace hp2 := hp2.mono PutR.mono hle15
          replace hl2 := fun k hk => (hl2 k hk).mono PieceR.mono hle15
          replace hv3 := hv3.mono VersionR.mono hle15
          replace hp3 := hp3.mono PutR.mono hle15
          replace hl3 := fun k hk => (hl3 k hk).mono PieceR.mono hle15
          refine Wo.p .no rfl (.move rfl) ?_
          refine Wo.callV .no rfl rfl rfl (closure_ok _ _ _ _ _ hb15 (hl3 6 (by decide))) ?_
          refine Wo.p .no rfl (.assign rfl) ?_
          refine Wo.p .no rfl (.assign rfl) ?_
          refine Wo.nil (sq_n ?_)
          refine Wc.ret ?_
          refine retQ_r ((hle2.trans hle3).trans hle15) (.tmp rfl (.tmp rfl .nil)) rfl ?_
          first
            | (rw [valR_no hz]; first | rw [← valE_a (li := li) (by with_reducible assumption)] | rw [← valE_b (li := li) (by with_reducible assumption)])
            | (rw [hz, ← val_leaf hz ‹fo = _› ‹gr - 1 = _› rfl])
        · have ke13 := e13
          refine Wo.p .no rfl (.ixae (q := 2) rfl rfl e13 ae_94 (by decide)) ?_
          refine Wo.ld .no rfl (.s rfl .hd a_93 rfl) ?_
          refine Wo.call .no rfl rfl rfl (compiled_ok _ (hl3 7 (by decide)).any (hl3 7 (by decide)).cells _) ?_
          rintro g16 ml16 r16 hle16 ⟨b16, rfl, rfl, hb16⟩
          replace hv2 := hv2.mono VersionR.mono hle16
          replace hp2 := hp2.mono PutR.mono hle16
          replace hl2 := fun k hk => (hl2 k hk).mono PieceR.mono hle16
          replace hv3 := hv3.mono VersionR.mono hle16
          replace hp3 := hp3.mono PutR.mono hle16
          replace hl3 := fun k hk => (hl3 k hk).mono PieceR.mono hle16
          refine Wo.p .no rfl (.move rfl) ?_
          refine Wo.callV .no rfl rfl rfl (closure_ok _ _ _ _ _ hb16 (hl3 7 (by decide))) ?_
          refine Wo.p .no rfl (.assign rfl) ?_
          refine Wo.p .no rfl (.assign rfl) ?_
          refine Wo.nil (sq_n ?_)
          refine Wc.ret ?_
          refine retQ_r ((hle2.trans hle3).trans hle16) (.tmp rfl (.tmp rfl .nil)) rfl ?_
          first
            | (rw [valR_no hz]; first | rw [← valE_a (li := li) (by with_reducible assumption)] | rw [← valE_b (li := li) (by with_reducible assumption)])
            | (rw [hz, ← val_leaf hz ‹fo = _› ‹gr - 1 = _› rfl])
        · have ke13 := e13
          refine Wo.p .no rfl (.ixae (q := 3) rfl rfl e13 ae_94 (by decide)) ?_
          refine Wo.ld .no rfl (.s rfl .hd a_93 rfl) ?_
          refine Wo.call .no rfl rfl rfl (compiled_ok _ (hl3 8 (by decide)).any (hl3 8 (by decide)).cells _) ?_
          rintro g17 ml17 r17 hle17 ⟨b17, rfl, rfl, hb17⟩
          replace hv2 := hv2.mono VersionR.mono hle17
          replace hp2 := hp2.mono PutR.mono hle17
          replace hl2 := fun k hk => (hl2 k hk).mono PieceR.mono hle17
          replace hv3 := hv3.mono VersionR.mono hle17
          replace hp3 := hp3.mono PutR.mono hle17
          replace hl3 := fun k hk => (hl3 k hk).mono PieceR.mono hle17
          refine Wo.p .no rfl (.move rfl) ?_
          refine Wo.callV .no rfl rfl rfl (closure_ok _ _ _ _ _ hb17 (hl3 8 (by decide))) ?_
          refine Wo.p .no rfl (.assign rfl) ?_
          refine Wo.p .no rfl (.assign rfl) ?_
          refine Wo.nil (sq_n ?_)
          refine Wc.ret ?_
          refine retQ_r ((hle2.trans hle3).trans hle17) (.tmp rfl (.tmp rfl .nil)) rfl ?_
          first
            | (rw [valR_no hz]; first | rw [← valE_a (li := li) (by with_reducible assumption)] | rw [← valE_b (li := li) (by with_reducible assumption)])
            | (rw [hz, ← val_leaf hz ‹fo = _› ‹gr - 1 = _› rfl])
        · have ke13 := e13
          refine Wo.p .no rfl (.ixae (q := 4) rfl rfl e13 ae_94 (by decide)) ?_
          refine Wo.ld .no rfl (.s rfl .hd a_93 rfl) ?_
          refine Wo.call .no rfl rfl rfl (compiled_ok _ (hl3 9 (by decide)).any (hl3 9 (by decide)).cells _) ?_
          rintro g18 ml18 r18 hle18 ⟨b18, rfl, rfl, hb18⟩
          replace hv2 := hv2.mono VersionR.mono hle18
          replace hp2 := hp2.mono PutR.mono hle18
          replace hl2 := fun k hk => (hl2 k hk).mono PieceR.mono hle18
          replace hv3 := hv3.mono VersionR.mono hle18
          replace hp3 := hp3.mono PutR.mono hle18
          replace hl3 := fun k hk => (hl3 k hk).mono PieceR.mono hle18
          refine Wo.p .no rfl (.move rfl) ?_
          refine Wo.callV .no rfl rfl rfl (closure_ok _ _ _ _ _ hb18 (hl3 9 (by decide))) ?_
          refine Wo.p .no rfl (.assign rfl) ?_
          refine Wo.p .no rfl (.assign rfl) ?_
          refine Wo.nil (sq_n ?_)
          refine Wc.ret ?_
          refine retQ_r ((hle2.trans hle3).trans hle18) (.tmp rfl (.tmp rfl .nil)) rfl ?_
          first
            | (rw [valR_no hz]; first | rw [← valE_a (li := li) (by with_reducible assumption)] | rw [← valE_b (li := li) (by with_reducible assumption)])
            | (rw [hz, ← val_leaf hz ‹fo = _› ‹gr - 1 = _› rfl])
  · have kh4 := h4; (try simp only [Bool.not_eq_true', Bool.not_eq_false', Bool.not_eq_true, Bool.not_eq_false, decide_eq_true_eq, decide_eq_false_iff_not, Int.not_lt, Int.not_le, Bool.not_eq_eq_eq_not, Bool.not_true, Bool.not_false] at kh4)
    refine Wo.p (.yes rfl rfl h4) rfl (.move rfl) ?_
    refine Wo.callV (.yes rfl rfl h4) rfl rfl rfl (isWithin_ok _ _ _ _) ?_
    refine Wo.p (.yes rfl rfl h4) rfl (.not rfl) ?_
    refine Wo.p .no rfl (.pickF rfl h4 rfl) ?_
    refine Wo.callR .no rfl rfl rfl .hd (fail_ok _ _ _ _ _ _ _ _ _ _ _ _ _ _ _ _ _ _ _ _) ?_
    refine Wo.p .no rfl (.assign rfl) ?_
    refine Wo.nil (sq_n ?_)
    refine Wc.seq ?_
    refine Wc.seq ?_
    refine Wc.region rfl ?_
    refine Wo.p .no rfl (.move rfl) ?_
    refine Wo.p .no rfl (.nil rfl) ?_
    refine Wo.p .no rfl (.fa rfl f_132_3) ?_
    refine Wo.ld .no rfl (.s rfl .hd a_30 rfl) ?_
    refine Wo.p .no rfl (.bin rfl rfl rfl) ?_
    refine Wo.nil (sq_n ?_)
    refine Wc.cond rfl (fun h19 => ?_) (fun h19 => ?_)
    · have kh19 := h19; (try simp only [Bool.not_eq_true', Bool.not_eq_false', Bool.not_eq_true, Bool.not_eq_false, decide_eq_true_eq, decide_eq_false_iff_not, Int.not_lt, Int.not_le, Bool.not_eq_eq_eq_not, Bool.not_true, Bool.not_false] at kh19)
      have hz : ¬ valE c ver fo gr li = 0 := by first | exact fun e => kh19 ((valE_a (li := li) (by with_reducible assumption)).trans e) | exact fun e => kh19 ((valE_b (li := li) (by with_reducible assumption)).trans e)
      refine Wc.seq ?_
      refine Wc.draw (tb := [⟨0, 0, true⟩, ⟨1, 0, true⟩, ⟨3, 0, true⟩, ⟨7, 0, true⟩, ⟨0, 0, false⟩, ⟨31, 0, true⟩]) rfl (by kernel_rfl) (by kernel_rfl) ?_
      refine Wd.p .no rfl (.move rfl) rfl rfl rfl ?_
      refine Wd.p .no rfl (.nil rfl) rfl rfl rfl ?_
      refine Wd.p .no rfl (.fa rfl f_132_3) rfl rfl rfl ?_
      refine Wd.ld (k := 0) .no rfl rfl rfl trivial (.s rfl .hd a_30 rfl) ?_
      refine Wd.p .no rfl (.assign rfl) rfl rfl rfl ?_
      refine Wd.p .no rfl (.assign rfl) rfl rfl rfl ?_
      refine Wd.nil (sq_n ?_)
      refine Wc.ret (sq_r ?_)
      refine retQ_r (hle2.trans hle3) (.tmp rfl (.tmp rfl .nil)) rfl ?_
      first
        | (rw [valR_no hz]; first | rw [← valE_a (li := li) (by with_reducible assumption)] | rw [← valE_b (li := li) (by with_reducible assumption)])
        | (rw [hz, ← val_leaf hz ‹fo = _› ‹gr - 1 = _› rfl])
    · have kh19 := h19; (try simp only [Bool.not_eq_true', Bool.not_eq_false', Bool.not_eq_true, Bool.not_eq_false, decide_eq_true_eq, decide_eq_false_iff_not, Int.not_lt, Int.not_le, Bool.not_eq_eq_eq_not, Bool.not_true, Bool.not_false] at kh19)
      have hz : valE c ver fo gr li = 0 := by first | exact (valE_a (li := li) (by with_reducible assumption)).symm.trans kh19 | exact (valE_b (li := li) (by with_reducible assumption)).symm.trans kh19
      obtain ⟨hz1, hz2, hz3, hz4⟩ := valE_zero hz
      refine Wc.skip (sq_n ?_)
      refine Wc.seq ?_
      refine Wc.region rfl ?_
      refine Wo.p .no rfl (.move rfl) ?_
      refine Wo.p .no rfl (.move rfl) ?_
      refine Wo.p .no rfl (.move rfl) ?_
      refine Wo.p .no rfl (.sub rfl rfl (by omega)) ?_
      refine Wo.p .no rfl (.nil rfl) ?_
      refine Wo.p .no rfl (.fa rfl f_132_1) ?_
      refine Wo.p .no rfl (.fa rfl f_97_2) ?_
      rcases (case2 (fo2 hz2)) with e20 | e20
      · have ke20 := e20
        refine Wo.p .no rfl (.ixae (q := 0) rfl rfl e20 ae_95 (by decide)) ?_
        rcases (case5 (gr5 hz3)) with e21 | e21 | e21 | e21 | e21
        · have ke21 := e21
          refine Wo.p .no rfl (.ixae (q := 0) rfl rfl e21 ae_94 (by decide)) ?_
          refine Wo.ld .no rfl (.s rfl .hd a_93 rfl) ?_
          refine Wo.call .no rfl rfl rfl (compiled_ok _ (hl3 0 (by decide)).any (hl3 0 (by decide)).cells _) ?_
          rintro g22 ml22 r22 hle22 ⟨b22, rfl, rfl, hb22⟩
          replace hv2 := hv2.mono VersionR.mono hle22
          replace hp2 := hp2.mono PutR.mono hle22
          replace hl2 := fun k hk => (hl2 k hk).mono PieceR.mono hle22
          replace hv3 := hv3.mono VersionR.mono hle22
          replace hp3 := hp3.mono PutR.mono hle22
          replace hl3 := fun k hk => (hl3 k hk).mono PieceR.mono hle22
          refine Wo.p .no rfl (.move rfl) ?_
          refine Wo.callV .no rfl rfl rfl (closure_ok _ _ _ _ _ hb22 (hl3 0 (by decide))) ?_
          refine Wo.p .no rfl (.assign rfl) ?_
          refine Wo.p .no rfl (.assign rfl) ?_
          refine Wo.nil (sq_n ?_)
          refine Wc.ret ?_
          refine retQ_r ((hle2.trans hle3).trans hle22) (.tmp rfl (.tmp rfl .nil)) rfl ?_
          first
            | (rw [valR_no hz]; first | rw [← valE_a (li := li) (by with_reducible assumption)] | rw [← valE_b (li := li) (by with_reducible assumption)])
            | (rw [hz, ← val_leaf hz ‹fo = _› ‹gr - 1 = _› rfl])
        · have ke21 := e21
          refine Wo.p .no rfl (.ixae (q := 1) rfl rfl e21 ae_94 (by decide)) ?_
          refine Wo.ld .no rfl (.s rfl .hd a_93 rfl) ?_
          refine Wo.call .no rfl rfl rfl (compiled_ok _ (hl3 1 (by decide)).any (hl3 1 (by decide)).cells _) ?_
          rintro g23 ml23 r23 hle23 ⟨b23, rfl, rfl, hb23⟩
          replace hv2 := hv2.mono VersionR.mono hle23
          replace hp2 := hp2.mono PutR.mono hle23
          replace hl2 := fun k hk => (hl2 k hk).mono PieceR.mono hle23
          replace hv3 := hv3.mono VersionR.mono hle23
          replace hp3 := hp3.mono PutR.mono hle23
          replace hl3 := fun k hk => (hl3 k hk).mono PieceR.mono hle23
          refine Wo.p .no rfl (.move rfl) ?_
          refine Wo.callV .no rfl rfl rfl (closure_ok _ _ _ _ _ hb23 (hl3 1 (by decide))) ?_
          refine Wo.p .no rfl (.assign rfl) ?_
          refine Wo.p .no rfl (.assign rfl) ?_
          refine Wo.nil (sq_n ?_)
          refine Wc.ret ?_
          refine retQ_r ((hle2.trans hle3).trans hle23) (.tmp rfl (.tmp rfl .nil)) rfl ?_
          first
            | (rw [valR_no hz]; first | rw [← valE_a (li := li) (by with_reducible assumption)] | rw [← valE_b (li := li) (by with_reducible assumption)])
            | (rw [hz, ← val_leaf hz ‹fo = _› ‹gr - 1 = _› rfl])
        · have ke21 := e21
          refine Wo.p .no rfl (.ixae (q := 2) rfl rfl e21 ae_94 (by decide)) ?_
          refine Wo.ld .no rfl (.s rfl .hd a_93 rfl) ?_
          refine Wo.call .no rfl rfl rfl (compiled_ok _ (hl3 2 (by decide)).any (hl3 2 (by decide)).cells _) ?_
          rintro g24 ml24 r24 hle24 ⟨b24, rfl, rfl, hb24⟩
          replace hv2 := hv2.mono VersionR.mono hle24
          replace hp2 := hp2.mono PutR.mono hle24
          replace hl2 := fun k hk => (hl2 k hk).mono PieceR.mono hle24
          replace hv3 := hv3.mono VersionR.mono hle24
          replace hp3 := hp3.mono PutR.mono hle24
          replace hl3 := fun k hk => (hl3 k hk).mono PieceR.mono hle24
          refine Wo.p .no rfl (.move rfl) ?_
          refine Wo.callV .no rfl rfl rfl (closure_ok _ _ _ _ _ hb24 (hl3 2 (by decide))) ?_
          refine Wo.p .no rfl (.assign rfl) ?_
          refine Wo.p .no rfl (.assign rfl) ?_
          refine Wo.nil (sq_n ?_)
          refine Wc.ret ?_
          refine retQ_r ((hle2.trans hle3).trans hle24) (.tmp rfl (.tmp rfl .nil)) rfl ?_
          first
            | (rw [valR_no hz]; first | rw [← valE_a (li := li) (by with_reducible assumption)] | rw [← valE_b (li := li) (by with_reducible assumption)])
            | (rw [hz, ← val_leaf hz ‹fo = _› ‹gr - 1 = _› rfl])
        · have ke21 := e21
          refine Wo.p .no rfl (.ixae (q := 3) rfl rfl e21 ae_94 (by decide)) ?_
          refine Wo.ld .no rfl (.s rfl .hd a_93 rfl) ?_
          refine Wo.call .no rfl rfl rfl (compiled_ok _ (hl3 3 (by decide)).any (hl3 3 (by decide)).cells _) ?_
          rintro g25 ml25 r25 hle25 ⟨b25, rfl, rfl, hb25⟩
          replace hv2 := hv2.mono VersionR.mono hle25
          replace hp2 := hp2.mono PutR.mono hle25
          replace hl2 := fun k hk => (hl2 k hk).mono PieceR.mono hle25
          replace hv3 := hv3.mono VersionR.mono hle25
          replace hp3 := hp3.mono PutR.mono hle25
          replace hl3 := fun k hk => (hl3 k hk).mono PieceR.mono hle25
          refine Wo.p .no rfl (.move rfl) ?_
          refine Wo.callV .no rfl rfl rfl (closure_ok _ _ _ _ _ hb25 (hl3 3 (by decide))) ?_
          refine Wo.p .no rfl (.assign rfl) ?_
          refine Wo.p .no rfl (.assign rfl) ?_
          refine Wo.nil (sq_n ?_)
          refine Wc.ret ?_
          refine retQ_r ((hle2.trans hle3).trans hle25) (.tmp rfl (.tmp rfl .nil)) rfl ?_
          first
            | (rw [valR_no hz]; first | rw [← valE_a (li := li) (by with_reducible assumption)] | rw [← valE_b (li := li) (by with_reducible assumption)])
            | (rw [hz, ← val_leaf hz ‹fo = _› ‹gr - 1 = _› rfl])
        · have ke21 := e21
          refine Wo.p .no rfl (.ixae (q := 4) rfl rfl e21 ae_94 (by decide)) ?_
          refine Wo.ld .no rfl (.s rfl .hd a_93 rfl) ?_
          refine Wo.call .no rfl rfl rfl (compiled_ok _ (hl3 4 (by decide)).any (hl3 4 (by decide)).cells _) ?_
          rintro g26 ml26 r26 hle26 ⟨b26, rfl, rfl, hb26⟩
          replace hv2 := hv2.mono VersionR.mono hle26
          replace hp2 := hp2.mono PutR.mono hle26
          replace hl2 := fun k hk => (hl2 k hk).mono PieceR.mono hle26
          replace hv3 := hv3.mono VersionR.mono hle26
          replace hp3 := hp3.mono PutR.mono hle26
          replace hl3 := fun k hk => (hl3 k hk).mono PieceR.mono hle26
          refine Wo.p .no rfl (.move rfl) ?_
          refine Wo.callV .no rfl rfl rfl (closure_ok _ _ _ _ _ hb26 (hl3 4 (by decide))) ?_
          refine Wo.p .no rfl (.assign rfl) ?_
          refine Wo.p .no rfl (.assign rfl) ?_
          refine Wo.nil (sq_n ?_)
          refine Wc.ret ?_
          refine retQ_r ((hle2.trans hle3).trans hle26) (.tmp rfl (.tmp rfl .nil)) rfl ?_
          first
            | (rw [valR_no hz]; first | rw [← valE_a (li := li) (by with_reducible assumption)] | rw [← valE_b (li := li) (by with_reducible assumption)])
            | (rw [hz, ← val_leaf hz ‹fo = _› ‹gr - 1 = _› rfl])
      · have ke20 := e20
        refine Wo.p .no rfl (.ixae (q := 1) rfl rfl e20 ae_95 (by decide)) ?_
        rcases (case5 (gr5 hz3)) with e27 | e27 | e27 | e27 | e27
        · have ke27 := e27
          refine Wo.p .no rfl (.ixae (q := 0) rfl rfl e27 ae_94 (by decide)) ?_
          refine Wo.ld .no rfl (.s rfl .hd a_93 rfl) ?_
          refine Wo.call .no rfl rfl rfl (compiled_ok _ (hl3 5 (by decide)).any (hl3 5 (by decide)).cells _) ?_
          rintro g28 ml28 r28 hle28 ⟨b28, rfl, rfl, hb28⟩
          replace hv2 := hv2.mono VersionR.mono hle28
          replace hp2 := hp2.mono PutR.mono hle28
          replace hl2 := fun k hk => (hl2 k hk).mono PieceR.mono hle28
          replace hv3 := hv3.mono VersionR.mono hle28
          replace hp3 := hp3.mono PutR.mono hle28
          replace hl3 := fun k hk => (hl3 k hk).mono PieceR.mono hle28
          refine Wo.p .no rfl (.move rfl) ?_
          refine Wo.callV .no rfl rfl rfl (closure_ok _ _ _ _ _ hb28 (hl3 5 (by decide))) ?_
          refine Wo.p .no rfl (.assign rfl) ?_
          refine Wo.p .no rfl (.assign rfl) ?_
          refine Wo.nil (sq_n ?_)
          refine Wc.ret ?_
          refine retQ_r ((hle2.trans hle3).trans hle28) (.tmp rfl (.tmp rfl .nil)) rfl ?_
          first
            | (rw [valR_no hz]; first | rw [← valE_a (li := li) (by with_reducible assumption)] | rw [← valE_b (li := li) (by with_reducible assumption)])
            | (rw [hz, ← val_leaf hz ‹fo = _› ‹gr - 1 = _› rfl])
        · have ke27 := e27
          refine Wo.p .no rfl (.ixae (q := 1) rfl rfl e27 ae_94 (by decide)) ?_
          refine Wo.ld .no rfl (.s rfl .hd a_93 rfl) ?_
          refine Wo.call .no rfl rfl rfl (compiled_ok _ (hl3 6 (by decide)).any (hl3 6 (by decide)).cells _) ?_
          rintro g29 ml29 r29 hle29 ⟨b29, rfl, rfl, hb29⟩
          replace hv2 := hv2.mono VersionR.mono hle29
          replace hp2 := hp2.mono PutR.mono hle29
          replace hl2 := fun k hk => (hl2 k hk).mono PieceR.mono hle29
          replace hv3 := hv3.mono VersionR.mono hle29
          replace hp3 := hp3.mono PutR.mono hle29
          replace hl3 := fun k hk => (hl3 k hk).mono PieceR.mono hle29
          refine Wo.p .no rfl (.move rfl) ?_
          refine Wo.callV .no rfl rfl rfl (closure_ok _ _ _ _ _ hb29 (hl3 6 (by decide))) ?_
          refine Wo.p .no rfl (.assign rfl) ?_
          refine Wo.p .no rfl (.assign rfl) ?_
          refine Wo.nil (sq_n ?_)
          refine Wc.ret ?_
          refine retQ_r ((hle2.trans hle3).trans hle29) (.tmp rfl (.tmp rfl .nil)) rfl ?_
          first
            | (rw [valR_no hz]; first | rw [← valE_a (li := li) (by with_reducible assumption)] | rw [← valE_b (li := li) (by with_reducible assumption)])
            | (rw [hz, ← val_leaf hz ‹fo = _› ‹gr - 1 = _› rfl])
        · have ke27 := e27
          refine Wo.p .no rfl (.ixae (q := 2) rfl rfl e27 ae_94 (by decide)) ?_
          refine Wo.ld .no rfl (.s rfl .hd a_93 rfl) ?_
          refine Wo.call .no rfl rfl rfl (compiled_ok _ (hl3 7 (by decide)).any (hl3 7 (by decide)).cells _) ?_
          rintro g30 ml30 r30 hle30 ⟨b30, rfl, rfl, hb30⟩
          replace hv2 := hv2.mono VersionR.mono hle30
          replace hp2 := hp2.mono PutR.mono hle30
          replace hl2 := fun k hk => (hl2 k hk).mono PieceR.mono hle30
          replace hv3 := hv3.mono VersionR.mono hle30
          replace hp3 := hp3.mono PutR.mono hle30
          replace hl3 := fun k hk => (hl3 k hk).mono PieceR.mono hle30
          refine Wo.p .no rfl (.move rfl) ?_
          refine Wo.callV .no rfl rfl rfl (closure_ok _ _ _ _ _ hb30 (hl3 7 (by decide))) ?_
          refine Wo.p .no rfl (.assign rfl) ?_
          refine Wo.p .no rfl (.assign rfl) ?_
          refine Wo.nil (sq_n ?_)
          refine Wc.ret ?_
          refine retQ_r ((hle2.trans hle3).trans hle30) (.tmp rfl (.tmp rfl .nil)) rfl ?_
          first
            | (rw [valR_no hz]; first | rw [← valE_a (li := li) (by with_reducible assumption)] | rw [← valE_b (li := li) (by with_reducible assumption)])
            | (rw [hz, ← val_leaf hz ‹fo = _› ‹gr - 1 = _› rfl])
        · have ke27 := e27
          refine Wo.p .no rfl (.ixae (q := 3) rfl rfl e27 ae_94 (by decide)) ?_
          refine Wo.ld .no rfl (.s rfl .hd a_93 rfl) ?_
          refine Wo.call .no rfl rfl rfl (compiled_ok _ (hl3 8 (by decide)).any (hl3 8 (by decide)).cells _) ?_
          rintro g31 ml31 r31 hle31 ⟨b31, rfl, rfl, hb31⟩
          replace hv2 := hv2.mono VersionR.mono hle31
          replace hp2 := hp2.mono PutR.mono hle31
          replace hl2 := fun k hk => (hl2 k hk).mono PieceR.mono hle31
          replace hv3 := hv3.mono VersionR.mono hle31
          replace hp3 := hp3.mono PutR.mono hle31
          replace hl3 := fun k hk => (hl3 k hk).mono PieceR.mono hle31
          refine Wo.p .no rfl (.move rfl) ?_
          refine Wo.callV .no rfl rfl rfl (closure_ok _ _ _ _ _ hb31 (hl3 8 (by decide))) ?_
          refine Wo.p .no rfl (.assign rfl) ?_
          refine Wo.p .no rfl (.assign rfl) ?_
          refine Wo.nil (sq_n ?_)
          refine Wc.ret ?_
          refine retQ_r ((hle2.trans hle3).trans hle31) (.tmp rfl (.tmp rfl .nil)) rfl ?_
          first
            | (rw [valR_no hz]; first | rw [← valE_a (li := li) (by with_reducible assumption)] | rw [← valE_b (li := li) (by with_reducible assumption)])
            | (rw [hz, ← val_leaf hz ‹fo = _› ‹gr - 1 = _› rfl])
        · have ke27 := e27
          refine Wo.p .no rfl (.ixae (q := 4) rfl rfl e27 ae_94 (by decide)) ?_
          refine Wo.ld .no rfl (.s rfl .hd a_93 rfl) ?_
          refine Wo.call .no rfl rfl rfl (compiled_ok _ (hl3 9 (by decide)).any (hl3 9 (by decide)).cells _) ?_
          rintro g32 ml32 r32 hle32 ⟨b32, rfl, rfl, hb32⟩
          replace hv2 := hv2.mono VersionR.mono hle32
          replace hp2 := hp2.mono PutR.mono hle32
          replace hl2 := fun k hk => (hl2 k hk).mono PieceR.mono hle32
          replace hv3 := hv3.mono VersionR.mono hle32
          replace hp3 := hp3.mono PutR.mono hle32
          replace hl3 := fun k hk => (hl3 k hk).mono PieceR.mono hle32
          refine Wo.p .no rfl (.move rfl) ?_
          refine Wo.callV .no rfl rfl rfl (closure_ok _ _ _ _ _ hb32 (hl3 9 (by decide))) ?_
          refine Wo.p .no rfl (.assign rfl) ?_
          refine Wo.p .no rfl (.assign rfl) ?_
          refine Wo.nil (sq_n ?_)
          refine Wc.ret ?_
          refine retQ_r ((hle2.trans hle3).trans hle32) (.tmp rfl (.tmp rfl .nil)) rfl ?_
          first
            | (rw [valR_no hz]; first | rw [← valE_a (li := li) (by with_reducible assumption)] | rw [← valE_b (li := li) (by with_reducible assumption)])
            | (rw [hz, ← val_leaf hz ‹fo = _› ‹gr - 1 = _› rfl])
--REG c.Value {'mode':'V','term':'(Value_ok _ _ _ _ _ _ _ {0})','val':lambda s,n:V('tup',vals=[V('int'),V('int')])}
theorem valE_err {c : Code} {ver fo gr li : Int} (h : ¬ c.err = 0) : valE c ver fo gr li = c.err := by unfold valE byE atE failE; simp [h]
theorem valE_ver {c : Code} {ver fo gr li : Int} (h : c.err = 0) (h2 : within ver 0 (c.vs.length - 1) = false) : valE c ver fo gr li = 42 := by unfold valE byE atE failE; simp [h, h2]
theorem valE_arg {c : Code} {ver fo gr li : Int} (h : c.err = 0) (h2 : within ver 0 (c.vs.length - 1) = true) (h3 : within fo 0 1 = false ∨ within gr 1 5 = false ∨ within li 0 20000000000 = false) : valE c ver fo gr li = 1 := by
  have hf : within fo 0 1 = false → (fo = 0 → False) ∧ (fo = 1 → False) := fun h => by unfold within at h; simp at h; omega
  unfold valE byE atE failE
  rcases h3 with h3 | h3 | h3
  · have := hf h3
    by_cases a : fo = 0
    · exact absurd a this.1
    · by_cases b : fo = 1
      · exact absurd b this.2
      · simp [h, h2, a, b]
  all_goals (by_cases a : fo = 0 <;> by_cases b : fo = 1 <;> simp [h, h2, h3, a, b])
theorem valE_ok {c : Code} {ver fo gr li : Int} (h : c.err = 0) (h2 : within ver 0 (c.vs.length - 1) = true) (h3 : within fo 0 1 = true) (h4 : within gr 1 5 = true) (h5 : within li 0 20000000000 = true) : valE c ver fo gr li = 0 := by
  have hf : fo = 0 ∨ fo = 1 := by unfold within at h3; simp at h3; omega
  unfold valE byE atE failE
  rcases hf with rfl | rfl <;> simp [h, h2, h4, h5]
theorem ver_ix {c : Code} {ver : Int} (h : within ver 0 (c.vs.length - 1) = true) : 0 ≤ ver ∧ ver < c.vs.length := by unfold within at h; simp at h; omega
theorem rval_leaf {f : List Piece → Int → Int} {c : Code} {ver fo gr li : Int} {y : Version} {a b : Nat} (hz : valE c ver fo gr li = 0) (hy : c.vs[ver.toNat]? = some y) (e1 : fo = (a : Int)) (e2 : gr - 1 = (b : Int)) {k : Nat} (hk : k = 5 * a + b) : f (y.ln k) li = valR f c ver fo gr li := by
  unfold valR
  rw [if_pos hz, List.getD_eq_getElem?_getD, hy, hk]
  unfold lnX
  rw [e1, e2, Int.toNat_natCast, Int.toNat_natCast]
  rfl
theorem rValue_ok (c : Code) (ver fo gr li : Int) (cs : List V) (g : G) (h : CodeR g cs c) : Fv Tryz.prog natS (.f 29 [] []) [.agg cs, .i .i64 ver, .agg [.i .i64 fo, .i .i64 gr], .i .i64 li] g (.tup [.i .i64 (valR refV c ver fo gr li), .i .i64 (valE c ver fo gr li)]) := by
  obtain ⟨v, rfl, h⟩ := h
  refine Fw.fv ?_
  have hlen := h.1
  refine Fw.enter (N := 55) (al := [(3, _), (2, _), (1, _), (0, _)]) Tryz.func29 (by kernel_rfl) (by kernel_rfl) rfl rfl rfl rfl ?_
  intro B
  refine Wc.seq ?_
  refine Wc.region rfl ?_
  refine Wo.box .no rfl rfl rfl rfl (fun b1 => ?_)
  refine Wo.box .no rfl rfl rfl rfl (fun b2 => ?_)
  refine Wo.p .no rfl (.assign rfl) ?_
  refine Wo.p .no rfl (.assign rfl) ?_
  refine Wo.nil (sq_n ?_)
  refine Wc.seq ?_
  refine Wc.region rfl ?_
  refine Wo.ld .no rfl (.a (vs := [_, _]) rfl (.tl .hd) a_24 s_24 rfl rfl) ?_
  refine Wo.callV .no rfl rfl rfl (rCheck_ok _ _ _ ⟨_, rfl, h⟩) ?_
  refine Wo.p .no rfl (.assign rfl) ?_
  refine Wo.nil (sq_n ?_)
  refine Wc.seq ?_
  refine Wc.seq ?_
  refine Wc.region rfl ?_
  refine Wo.p .no rfl (.move rfl) ?_
  refine Wo.p .no rfl (.bin rfl rfl rfl) ?_
  refine Wo.nil (sq_n ?_)
  refine Wc.cond rfl (fun h3 => ?_) (fun h3 => ?_)
  · have kh3 := h3; (try simp only [Bool.not_eq_true', Bool.not_eq_false', Bool.not_eq_true, Bool.not_eq_false, decide_eq_true_eq, decide_eq_false_iff_not, Int.not_lt, Int.not_le, Bool.not_eq_eq_eq_not, Bool.not_true, Bool.not_false] at kh3)
    refine Wc.seq ?_
    refine Wc.region rfl ?_
    refine Wo.p .no rfl (.move rfl) ?_
    refine Wo.p .no rfl (.assign rfl) ?_
    refine Wo.p .no rfl (.assign rfl) ?_
    refine Wo.nil (sq_n ?_)
    refine Wc.ret (sq_r ?_)
    refine retQ_r (Le.refl _) (.tmp rfl (.tmp rfl .nil)) rfl ?_
    first
      | (rw [valR_no (by rw [valE_err (by with_reducible assumption)]; assumption), valE_err (by with_reducible assumption)])
      | (rw [valR_no (by rw [valE_ver (by with_reducible assumption) (by with_reducible assumption)]; decide), valE_ver (by with_reducible assumption) (by with_reducible assumption)])
      | (rw [valR_no (by rw [valE_arg (by with_reducible assumption) (by with_reducible assumption) (.inl (by with_reducible assumption))]; decide), valE_arg (by with_reducible assumption) (by with_reducible assumption) (.inl (by with_reducible assumption))])
      | (rw [valR_no (by rw [valE_arg (by with_reducible assumption) (by with_reducible assumption) (.inr (.inl (by with_reducible assumption)))]; decide), valE_arg (by with_reducible assumption) (by with_reducible assumption) (.inr (.inl (by with_reducible assumption)))])
      | (rw [valR_no (by rw [valE_arg (by with_reducible assumption) (by with_reducible assumption) (.inr (.inr (by with_reducible assumption)))]; decide), valE_arg (by with_reducible assumption) (by with_reducible assumption) (.inr (.inr (by with_reducible assumption)))])
      | (rw [hz, ← rval_leaf hz (by with_reducible assumption) ‹fo = _› ‹gr - 1 = _› rfl])
  · have kh3 := h3; (try simp only [Bool.not_eq_true', Bool.not_eq_false', Bool.not_eq_true, Bool.not_eq_false, decide_eq_true_eq, decide_eq_false_iff_not, Int.not_lt, Int.not_le, Bool.not_eq_eq_eq_not, Bool.not_true, Bool.not_false] at kh3)
    refine Wc.skip (sq_n ?_)
    refine Wc.seq ?_
    refine Wc.seq ?_
    refine Wc.region rfl ?_
    refine Wo.p .no rfl (.move rfl) ?_
    refine Wo.p .no rfl (.fa rfl f_24_1) ?_
    refine Wo.ld .no rfl (.s rfl (.tl .hd) a_22 rfl) ?_
    refine Wo.p .no rfl (.lenR rfl rfl rfl e_22 h) ?_
    refine Wo.p .no rfl (.sub rfl rfl (by omega)) ?_
    refine Wo.callV .no rfl rfl rfl (in_ok _ _ _ _) ?_
    refine Wo.p .no rfl (.not rfl) ?_
    refine Wo.nil (sq_n ?_)
    refine Wc.cond rfl (fun h4 => ?_) (fun h4 => ?_)
    · have kh4 := h4; (try simp only [Bool.not_eq_true', Bool.not_eq_false', Bool.not_eq_true, Bool.not_eq_false, decide_eq_true_eq, decide_eq_false_iff_not, Int.not_lt, Int.not_le, Bool.not_eq_eq_eq_not, Bool.not_true, Bool.not_false] at kh4)
      refine Wc.seq ?_
      refine Wc.region rfl ?_
      refine Wo.p .no rfl (.assign rfl) ?_
      refine Wo.p .no rfl (.assign rfl) ?_
      refine Wo.nil (sq_n ?_)
      refine Wc.ret (sq_r ?_)
      refine retQ_r (Le.refl _) (.tmp rfl (.tmp rfl .nil)) rfl ?_
      first
        | (rw [valR_no (by rw [valE_err (by with_reducible assumption)]; assumption), valE_err (by with_reducible assumption)])
        | (rw [valR_no (by rw [valE_ver (by with_reducible assumption) (by with_reducible assumption)]; decide), valE_ver (by with_reducible assumption) (by with_reducible assumption)])
        | (rw [valR_no (by rw [valE_arg (by with_reducible assumption) (by with_reducible assumption) (.inl (by with_reducible assumption))]; decide), valE_arg (by with_reducible assumption) (by with_reducible assumption) (.inl (by with_reducible assumption))])
        | (rw [valR_no (by rw [valE_arg (by with_reducible assumption) (by with_reducible assumption) (.inr (.inl (by with_reducible assumption)))]; decide), valE_arg (by with_reducible assumption) (by with_reducible assumption) (.inr (.inl (by with_reducible assumption)))])
        | (rw [valR_no (by rw [valE_arg (by with_reducible assumption) (by with_reducible assumption) (.inr (.inr (by with_reducible assumption)))]; decide), valE_arg (by with_reducible assumption) (by with_reducible assumption) (.inr (.inr (by with_reducible assumption)))])
        | (rw [hz, ← rval_leaf hz (by with_reducible assumption) ‹fo = _› ‹gr - 1 = _› rfl])
    · have kh4 := h4; (try simp only [Bool.not_eq_true', Bool.not_eq_false', Bool.not_eq_true, Bool.not_eq_false, decide_eq_true_eq, decide_eq_false_iff_not, Int.not_lt, Int.not_le, Bool.not_eq_eq_eq_not, Bool.not_true, Bool.not_false] at kh4)
      refine Wc.skip (sq_n ?_)
      refine Wc.seq ?_
      refine Wc.seq ?_
      refine Wc.region rfl ?_
      refine Wo.p .no rfl (.ixa (j := 0) rfl rfl ae_53 (by decide)) ?_
      refine Wo.ld .no rfl (.s rfl .hd a_3 rfl) ?_
      refine Wo.callV .no rfl rfl rfl (in_ok _ _ _ _) ?_
      refine Wo.p .no rfl (.not rfl) ?_
      refine Wo.p .no rfl (.move rfl) ?_
      refine Wo.split (t := 28) rfl (fun h5 => ?_) (fun h5 => ?_)
      · have kh5 := h5; (try simp only [Bool.not_eq_true', Bool.not_eq_false', Bool.not_eq_true, Bool.not_eq_false, decide_eq_true_eq, decide_eq_false_iff_not, Int.not_lt, Int.not_le, Bool.not_eq_eq_eq_not, Bool.not_true, Bool.not_false] at kh5)
        refine Wo.skip (.yes rfl rfl h5) rfl ?_
        refine Wo.skip (.yes rfl rfl h5) rfl ?_
        refine Wo.skip (.yes rfl rfl h5) rfl ?_
        refine Wo.skip (.yes rfl rfl h5) rfl ?_
        refine Wo.p .no rfl (.pickT rfl h5 rfl) ?_
        refine Wo.p .no rfl (.move rfl) ?_
        refine Wo.skip (.yes rfl rfl rfl) rfl ?_
        refine Wo.skip (.yes rfl rfl rfl) rfl ?_
        refine Wo.skip (.yes rfl rfl rfl) rfl ?_
        refine Wo.p .no rfl (.pickT rfl rfl rfl) ?_
        refine Wo.nil (sq_n ?_)
        refine Wc.condT rfl rfl ?_
        refine Wc.seq ?_
        refine Wc.region rfl ?_
        refine Wo.p .no rfl (.assign rfl) ?_
        refine Wo.p .no rfl (.assign rfl) ?_
        refine Wo.nil (sq_n ?_)
        refine Wc.ret (sq_r ?_)
        refine retQ_r (Le.refl _) (.tmp rfl (.tmp rfl .nil)) rfl ?_
        first
          | (rw [valR_no (by rw [valE_err (by with_reducible assumption)]; assumption), valE_err (by with_reducible assumption)])
          | (rw [valR_no (by rw [valE_ver (by with_reducible assumption) (by with_reducible assumption)]; decide), valE_ver (by with_reducible assumption) (by with_reducible assumption)])
          | (rw [valR_no (by rw [valE_arg (by with_reducible assumption) (by with_reducible assumption) (.inl (by with_reducible assumption))]; decide), valE_arg (by with_reducible assumption) (by with_reducible assumption) (.inl (by with_reducible assumption))])
          | (rw [valR_no (by rw [valE_arg (by with_reducible assumption) (by with_reducible assumption) (.inr (.inl (by with_reducible assumption)))]; decide), valE_arg (by with_reducible assumption) (by with_reducible assumption) (.inr (.inl (by with_reducible assumption)))])
          | (rw [valR_no (by rw [valE_arg (by with_reducible assumption) (by with_reducible assumption) (.inr (.inr (by with_reducible assumption)))]; decide), valE_arg (by with_reducible assumption) (by with_reducible assumption) (.inr (.inr (by with_reducible assumption)))])
          | (rw [hz, ← rval_leaf hz (by with_reducible assumption) ‹fo = _› ‹gr - 1 = _› rfl])
      · have kh5 := h5; (try simp only [Bool.not_eq_true', Bool.not_eq_false', Bool.not_eq_true, Bool.not_eq_false, decide_eq_true_eq, decide_eq_false_iff_not, Int.not_lt, Int.not_le, Bool.not_eq_eq_eq_not, Bool.not_true, Bool.not_false] at kh5)
        refine Wo.p (.yes rfl rfl h5) rfl (.ixa (j := 1) rfl rfl ae_53 (by decide)) ?_
        refine Wo.ld (.yes rfl rfl h5) rfl (.s rfl .hd a_3 rfl) ?_
        refine Wo.callV (.yes rfl rfl h5) rfl rfl rfl (in_ok _ _ _ _) ?_
        refine Wo.p (.yes rfl rfl h5) rfl (.not rfl) ?_
        refine Wo.p .no rfl (.pickF rfl h5 rfl) ?_
        refine Wo.p .no rfl (.move rfl) ?_
        refine Wo.split (t := 34) rfl (fun h6 => ?_) (fun h6 => ?_)
        · have kh6 := h6; (try simp only [Bool.not_eq_true', Bool.not_eq_false', Bool.not_eq_true, Bool.not_eq_false, decide_eq_true_eq, decide_eq_false_iff_not, Int.not_lt, Int.not_le, Bool.not_eq_eq_eq_not, Bool.not_true, Bool.not_false] at kh6)
          refine Wo.skip (.yes rfl rfl h6) rfl ?_
          refine Wo.skip (.yes rfl rfl h6) rfl ?_
          refine Wo.skip (.yes rfl rfl h6) rfl ?_
          refine Wo.p .no rfl (.pickT rfl h6 rfl) ?_
          refine Wo.nil (sq_n ?_)
          refine Wc.condT rfl rfl ?_
          refine Wc.seq ?_
          refine Wc.region rfl ?_
          refine Wo.p .no rfl (.assign rfl) ?_
          refine Wo.p .no rfl (.assign rfl) ?_
          refine Wo.nil (sq_n ?_)
          refine Wc.ret (sq_r ?_)
          refine retQ_r (Le.refl _) (.tmp rfl (.tmp rfl .nil)) rfl ?_
          first
            | (rw [valR_no (by rw [valE_err (by with_reducible assumption)]; assumption), valE_err (by with_reducible assumption)])
            | (rw [valR_no (by rw [valE_ver (by with_reducible assumption) (by with_reducible assumption)]; decide), valE_ver (by with_reducible assumption) (by with_reducible assumption)])
            | (rw [valR_no (by rw [valE_arg (by with_reducible assumption) (by with_reducible assumption) (.inl (by with_reducible assumption))]; decide), valE_arg (by with_reducible assumption) (by with_reducible assumption) (.inl (by with_reducible assumption))])
            | (rw [valR_no (by rw [valE_arg (by with_reducible assumption) (by with_reducible assumption) (.inr (.inl (by with_reducible assumption)))]; decide), valE_arg (by with_reducible assumption) (by with_reducible assumption) (.inr (.inl (by with_reducible assumption)))])
            | (rw [valR_no (by rw [valE_arg (by with_reducible assumption) (by with_reducible assumption) (.inr (.inr (by with_reducible assumption)))]; decide), valE_arg (by with_reducible assumption) (by with_reducible assumption) (.inr (.inr (by with_reducible assumption)))])
            | (rw [hz, ← rval_leaf hz (by with_reducible assumption) ‹fo = _› ‹gr - 1 = _› rfl])
        · have kh6 := h6; (try simp only [Bool.not_eq_true', Bool.not_eq_false', Bool.not_eq_true, Bool.not_eq_false, decide_eq_true_eq, decide_eq_false_iff_not, Int.not_lt, Int.not_le, Bool.not_eq_eq_eq_not, Bool.not_true, Bool.not_false] at kh6)
          refine Wo.p (.yes rfl rfl h6) rfl (.move rfl) ?_
          refine Wo.callV (.yes rfl rfl h6) rfl rfl rfl (in_ok _ _ _ _) ?_
          refine Wo.p (.yes rfl rfl h6) rfl (.not rfl) ?_
          refine Wo.p .no rfl (.pickF rfl h6 rfl) ?_
          refine Wo.nil (sq_n ?_)
          refine Wc.cond rfl (fun h7 => ?_) (fun h7 => ?_)
          · have kh7 := h7; (try simp only [Bool.not_eq_true', Bool.not_eq_false', Bool.not_eq_true, Bool.not_eq_false, decide_eq_true_eq, decide_eq_false_iff_not, Int.not_lt, Int.not_le, Bool.not_eq_eq_eq_not, Bool.not_true, Bool.not_false] at kh7)
            refine Wc.seq ?_
            refine Wc.region rfl ?_
            refine Wo.p .no rfl (.assign rfl) ?_
            refine Wo.p .no rfl (.assign rfl) ?_
            refine Wo.nil (sq_n ?_)
            refine Wc.ret (sq_r ?_)
            refine retQ_r (Le.refl _) (.tmp rfl (.tmp rfl .nil)) rfl ?_
            first
              | (rw [valR_no (by rw [valE_err (by with_reducible assumption)]; assumption), valE_err (by with_reducible assumption)])
              | (rw [valR_no (by rw [valE_ver (by with_reducible assumption) (by with_reducible assumption)]; decide), valE_ver (by with_reducible assumption) (by with_reducible assumption)])
              | (rw [valR_no (by rw [valE_arg (by with_reducible assumption) (by with_reducible assumption) (.inl (by with_reducible assumption))]; decide), valE_arg (by with_reducible assumption) (by with_reducible assumption) (.inl (by with_reducible assumption))])
              | (rw [valR_no (by rw [valE_arg (by with_reducible assumption) (by with_reducible assumption) (.inr (.inl (by with_reducible assumption)))]; decide), valE_arg (by with_reducible assumption) (by with_reducible assumption) (.inr (.inl (by with_reducible assumption)))])
              | (rw [valR_no (by rw [valE_arg (by with_reducible assumption) (by with_reducible assumption) (.inr (.inr (by with_reducible assumption)))]; decide), valE_arg (by with_reducible assumption) (by with_reducible assumption) (.inr (.inr (by with_reducible assumption)))])
              | (rw [hz, ← rval_leaf hz (by with_reducible assumption) ‹fo = _› ‹gr - 1 = _› rfl])
          · have kh7 := h7; (try simp only [Bool.not_eq_true', Bool.not_eq_false', Bool.not_eq_true, Bool.not_eq_false, decide_eq_true_eq, decide_eq_false_iff_not, Int.not_lt, Int.not_le, Bool.not_eq_eq_eq_not, Bool.not_true, Bool.not_false] at kh7)
            have hz : valE c ver fo gr li = 0 := valE_ok (by with_reducible assumption) (by with_reducible assumption) (by with_reducible assumption) (by with_reducible assumption) kh7
            obtain ⟨hz1, hz2, hz3, hz4⟩ := valE_zero hz
            refine Wc.skip (sq_n ?_)
            refine Wc.seq ?_
            refine Wc.draw (tb := [⟨0, 0, false⟩, ⟨1, 0, false⟩, ⟨0, 0, false⟩, ⟨0, 0, false⟩, ⟨8, 0, false⟩, ⟨0, 0, false⟩, ⟨32, 0, false⟩, ⟨96, 0, false⟩, ⟨7, 0, false⟩, ⟨263, 0, false⟩, ⟨799, 0, false⟩, ⟨2047, 0, true⟩, ⟨4095, 0, true⟩, ⟨0, 0, false⟩, ⟨16383, 0, true⟩, ⟨32767, 1, true⟩]) rfl (by kernel_rfl) (by kernel_rfl) ?_
            refine Wd.p .no rfl (.fa rfl f_24_1) rfl rfl rfl ?_
            refine Wd.ld (k := 0) .no rfl rfl rfl trivial (.s rfl (.tl .hd) a_22 rfl) ?_
            refine Wd.p .no rfl (.move rfl) rfl rfl rfl ?_
            refine Wd.p .no rfl (.ixa (j := 0) rfl rfl ae_53 (by decide)) rfl rfl rfl ?_
            refine Wd.ld (k := 0) .no rfl rfl rfl trivial (.s rfl .hd a_3 rfl) ?_
            refine Wd.p .no rfl (.ixa (j := 1) rfl rfl ae_53 (by decide)) rfl rfl rfl ?_
            refine Wd.ld (k := 0) .no rfl rfl rfl trivial (.s rfl .hd a_3 rfl) ?_
            refine Wd.p .no rfl (.sub rfl rfl (by omega)) rfl rfl rfl ?_
            refine Wd.ixi .no rfl rfl h rfl e_22 (ver_ix (by with_reducible assumption)) ?_
            intro b8 o8 cs8 y8 hy8 hq8 hr8
            obtain ⟨p8, lv8, rfl, hp8, hl8⟩ := hr8
            refine Wd.p .no rfl (.fa rfl f_97_2) rfl rfl rfl ?_
            rcases (case2 (fo2 hz2)) with e9 | e9
            · have ke9 := e9
              refine Wd.p .no rfl (.ixae (q := 0) rfl rfl e9 ae_95 (by decide)) rfl rfl rfl ?_
              rcases (case5 (gr5 hz3)) with e10 | e10 | e10 | e10 | e10
              · have ke10 := e10
                refine Wd.p .no rfl (.ixae (q := 0) rfl rfl e10 ae_94 (by decide)) rfl rfl rfl ?_
                refine Wd.ld (k := 0) .no rfl rfl rfl trivial (.ps 2 rfl hq8 rfl a_93 rfl) ?_
                refine Wd.p .no rfl (.move rfl) rfl rfl rfl ?_
                refine Wd.callV .no rfl rfl rfl rfl rfl (rvalue_ok _ _ _ _ (hl8 0 (by decide))) ?_
                refine Wd.p .no rfl (.assign rfl) rfl rfl rfl ?_
                refine Wd.nil (sq_n ?_)
                refine Wc.seq ?_
                refine Wc.region rfl ?_
                refine Wo.p .no rfl (.move rfl) ?_
                refine Wo.p .no rfl (.assign rfl) ?_
                refine Wo.p .no rfl (.assign rfl) ?_
                refine Wo.nil (sq_n ?_)
                refine Wc.ret ?_
                refine retQ_r (Le.refl _) (.tmp rfl (.tmp rfl .nil)) rfl ?_
                first
                  | (rw [valR_no (by rw [valE_err (by with_reducible assumption)]; assumption), valE_err (by with_reducible assumption)])
                  | (rw [valR_no (by rw [valE_ver (by with_reducible assumption) (by with_reducible assumption)]; decide), valE_ver (by with_reducible assumption) (by with_reducible assumption)])
                  | (rw [valR_no (by rw [valE_arg (by with_reducible assumption) (by with_reducible assumption) (.inl (by with_reducible assumption))]; decide), valE_arg (by with_reducible assumption) (by with_reducible assumption) (.inl (by with_reducible assumption))])
                  | (rw [valR_no (by rw [valE_arg (by with_reducible assumption) (by with_reducible assumption) (.inr (.inl (by with_reducible assumption)))]; decide), valE_arg (by with_reducible assumption) (by with_reducible assumption) (.inr (.inl (by with_reducible assumption)))])
                  | (rw [valR_no (by rw [valE_arg (by with_reducible assumption) (by with_reducible assumption) (.inr (.inr (by with_reducible assumption)))]; decide), valE_arg (by with_reducible assumption) (by with_reducible assumption) (.inr (.inr (by with_reducible assumption)))])
                  | (rw [hz, ← rval_leaf hz (by with_reducible assumption) ‹fo = _› ‹gr - 1 = _› rfl])
              · have ke10 := e10
                refine Wd.p .no rfl (.ixae (q := 1) rfl rfl e10 ae_94 (by decide)) rfl rfl rfl ?_
                refine Wd.ld (k := 0) .no rfl rfl rfl trivial (.ps 3 rfl hq8 rfl a_93 rfl) ?_
                refine Wd.p .no rfl (.move rfl) rfl rfl rfl ?_
                refine Wd.callV .no rfl rfl rfl rfl rfl (rvalue_ok _ _ _ _ (hl8 1 (by decide))) ?_
                refine Wd.p .no rfl (.assign rfl) rfl rfl rfl ?_
                refine Wd.nil (sq_n ?_)
                refine Wc.seq ?_
                refine Wc.region rfl ?_
                refine Wo.p .no rfl (.move rfl) ?_
                refine Wo.p .no rfl (.assign rfl) ?_
                refine Wo.p .no rfl (.assign rfl) ?_
                refine Wo.nil (sq_n ?_)
                refine Wc.ret ?_
                refine retQ_r (Le.refl _) (.tmp rfl (.tmp rfl .nil)) rfl ?_
                first
                  | (rw [valR_no (by rw [valE_err (by with_reducible assumption)]; assumption), valE_err (by with_reducible assumption)])
                  | (rw [valR_no (by rw [valE_ver (by with_reducible assumption) (by with_reducible assumption)]; decide), valE_ver (by with_reducible assumption) (by with_reducible assumption)])
                  | (rw [valR_no (by rw [valE_arg (by with_reducible assumption) (by with_reducible assumption) (.inl (by with_reducible assumption))]; decide), valE_arg (by with_reducible assumption) (by with_reducible assumption) (.inl (by with_reducible assumption))])
                  | (rw [valR_no (by rw [valE_arg (by with_reducible assumption) (by with_reducible assumption) (.inr (.inl (by with_reducible assumption)))]; decide), valE_arg (by with_reducible assumption) (by with_reducible assumption) (.inr (.inl (by with_reducible assumption)))])
                  | (rw [valR_no (by rw [valE_arg (by with_reducible assumption) (by with_reducible assumption) (.inr (.inr (by with_reducible assumption)))]; decide), valE_arg (by with_reducible assumption) (by with_reducible assumption) (.inr (.inr (by with_reducible assumption)))])
                  | (rw [hz, ← rval_leaf hz (by with_reducible assumption) ‹fo = _› ‹gr - 1 = _› rfl])
              · have ke10 := e10
                refine Wd.p .no rfl (.ixae (q := 2) rfl rfl e10 ae_94 (by decide)) rfl rfl rfl ?_
                refine Wd.ld (k := 0) .no rfl rfl rfl trivial (.ps 4 rfl hq8 rfl a_93 rfl) ?_
                refine Wd.p .no rfl (.move rfl) rfl rfl rfl ?_
                refine Wd.callV .no rfl rfl rfl rfl rfl (rvalue_ok _ _ _ _ (hl8 2 (by decide))) ?_
                refine Wd.p .no rfl (.assign rfl) rfl rfl rfl ?_
                refine Wd.nil (sq_n ?_)
                refine Wc.seq ?_
                refine Wc.region rfl ?_
                refine Wo.p .no rfl (.move rfl) ?_
                refine Wo.p .no rfl (.assign rfl) ?_
                refine Wo.p .no rfl (.assign rfl) ?_
                refine Wo.nil (sq_n ?_)
                refine Wc.ret ?_
                refine retQ_r (Le.refl _) (.tmp rfl (.tmp rfl .nil)) rfl ?_
                first
                  | (rw [valR_no (by rw [valE_err (by with_reducible assumption)]; assumption), valE_err (by with_reducible assumption)])
                  | (rw [valR_no (by rw [valE_ver (by with_reducible assumption) (by with_reducible assumption)]; decide), valE_ver (by with_reducible assumption) (by with_reducible assumption)])
                  | (rw [valR_no (by rw [valE_arg (by with_reducible assumption) (by with_reducible assumption) (.inl (by with_reducible assumption))]; decide), valE_arg (by with_reducible assumption) (by with_reducible assumption) (.inl (by with_reducible assumption))])
                  | (rw [valR_no (by rw [valE_arg (by with_reducible assumption) (by with_reducible assumption) (.inr (.inl (by with_reducible assumption)))]; decide), valE_arg (by with_reducible assumption) (by with_reducible assumption) (.inr (.inl (by with_reducible assumption)))])
                  | (rw [valR_no (by rw [valE_arg (by with_reducible assumption) (by with_reducible assumption) (.inr (.inr (by with_reducible assumption)))]; decide), valE_arg (by with_reducible assumption) (by with_reducible assumption) (.inr (.inr (by with_reducible assumption)))])
                  | (rw [hz, ← rval_leaf hz (by with_reducible assumption) ‹fo = _› ‹gr - 1 = _› rfl])
              · have ke10 := e10
                refine Wd.p .no rfl (.ixae (q := 3) rfl rfl e10 ae_94 (by decide)) rfl rfl rfl ?_
                refine Wd.ld (k := 0) .no rfl rfl rfl trivial (.ps 5 rfl hq8 rfl a_93 rfl) ?_
                refine Wd.p .no rfl (.move rfl) rfl rfl rfl ?_
                refine Wd.callV .no rfl rfl rfl rfl rfl (rvalue_ok _ _ _ _ (hl8 3 (by decide))) ?_
                refine Wd.p .no rfl (.assign rfl) rfl rfl rfl ?_
                refine Wd.nil (sq_n ?_)
                refine Wc.seq ?_
                refine Wc.region rfl ?_
                refine Wo.p .no rfl (.move rfl) ?_
                refine Wo.p .no rfl (.assign rfl) ?_
                refine Wo.p .no rfl (.assign rfl) ?_
                refine Wo.nil (sq_n ?_)
                refine Wc.ret ?_
                refine retQ_r (Le.refl _) (.tmp rfl (.tmp rfl .nil)) rfl ?_
                first
                  | (rw [valR_no (by rw [valE_err (by with_reducible assumption)]; assumption), valE_err (by with_reducible assumption)])
                  | (rw [valR_no (by rw [valE_ver (by with_reducible assumption) (by with_reducible assumption)]; decide), valE_ver (by with_reducible assumption) (by with_reducible assumption)])
                  | (rw [valR_no (by rw [valE_arg (by with_reducible assumption) (by with_reducible assumption) (.inl (by with_reducible assumption))]; decide), valE_arg (by with_reducible assumption) (by with_reducible assumption) (.inl (by with_reducible assumption))])
                  | (rw [valR_no (by rw [valE_arg (by with_reducible assumption) (by with_reducible assumption) (.inr (.inl (by with_reducible assumption)))]; decide), valE_arg (by with_reducible assumption) (by with_reducible assumption) (.inr (.inl (by with_reducible assumption)))])
                  | (rw [valR_no (by rw [valE_arg (by with_reducible assumption) (by with_reducible assumption) (.inr (.inr (by with_reducible assumption)))]; decide), valE_arg (by with_reducible assumption) (by with_reducible assumption) (.inr (.inr (by with_reducible assumption)))])
                  | (rw [hz, ← rval_leaf hz (by with_reducible assumption) ‹fo = _› ‹gr - 1 = _› rfl])
              · have ke10 := e10
                refine Wd.p .no rfl (.ixae (q := 4) rfl rfl e10 ae_94 (by decide)) rfl rfl rfl ?_
                refine Wd.ld (k := 0) .no rfl rfl rfl trivial (.ps 6 rfl hq8 rfl a_93 rfl) ?_
                refine Wd.p .no rfl (.move rfl) rfl rfl rfl ?_
                refine Wd.callV .no rfl rfl rfl rfl rfl (rvalue_ok _ _ _ _ (hl8 4 (by decide))) ?_
                refine Wd.p .no rfl (.assign rfl) rfl rfl rfl ?_
                refine Wd.nil (sq_n ?_)
                refine Wc.seq ?_
                refine Wc.region rfl ?_
                refine Wo.p .no rfl (.move rfl) ?_
                refine Wo.p .no rfl (.assign rfl) ?_
                refine Wo.p .no rfl (.assign rfl) ?_
                refine Wo.nil (sq_n ?_)
                refine Wc.ret ?_
                refine retQ_r (Le.refl _) (.tmp rfl (.tmp rfl .nil)) rfl ?_
                first
                  | (rw [valR_no (by rw [valE_err (by with_reducible assumption)]; assumption), valE_err (by with_reducible assumption)])
                  | (rw [valR_no (by rw [valE_ver (by with_reducible assumption) (by with_reducible assumption)]; decide), valE_ver (by with_reducible assumption) (by with_reducible assumption)])
                  | (rw [valR_no (by rw [valE_arg (by with_reducible assumption) (by with_reducible assumption) (.inl (by with_reducible assumption))]; decide), valE_arg (by with_reducible assumption) (by with_reducible assumption) (.inl (by with_reducible assumption))])
                  | (rw [valR_no (by rw [valE_arg (by with_reducible assumption) (by with_reducible assumption) (.inr (.inl (by with_reducible assumption)))]; decide), valE_arg (by with_reducible assumption) (by with_reducible assumption) (.inr (.inl (by with_reducible assumption)))])
                  | (rw [valR_no (by rw [valE_arg (by with_reducible assumption) (by with_reducible assumption) (.inr (.inr (by with_reducible assumption)))]; decide), valE_arg (by with_reducible assumption) (by with_reducible assumption) (.inr (.inr (by with_reducible assumption)))])
                  | (rw [hz, ← rval_leaf hz (by with_reducible assumption) ‹fo = _› ‹gr - 1 = _› rfl])
            · have ke9 := e9
              refine Wd.p .no rfl (.ixae (q := 1) rfl rfl e9 ae_95 (by decide)) rfl rfl rfl ?_
              rcases (case5 (gr5 hz3)) with e11 | e11 | e11 | e11 | e11
              · have ke11 := e11
                refine Wd.p .no rfl (.ixae (q := 0) rfl rfl e11 ae_94 (by decide)) rfl rfl rfl ?_
                refine Wd.ld (k := 0) .no rfl rfl rfl trivial (.ps 7 rfl hq8 rfl a_93 rfl) ?_
                refine Wd.p .no rfl (.move rfl) rfl rfl rfl ?_
                refine Wd.callV .no rfl rfl rfl rfl rfl (rvalue_ok _ _ _ _ (hl8 5 (by decide))) ?_
                refine Wd.p .no rfl (.assign rfl) rfl rfl rfl ?_
                refine Wd.nil (sq_n ?_)
                refine Wc.seq ?_
                refine Wc.region rfl ?_
                refine Wo.p .no rfl (.move rfl) ?_
                refine Wo.p .no rfl (.assign rfl) ?_
                refine Wo.p .no rfl (.assign rfl) ?_
                refine Wo.nil (sq_n ?_)
                refine Wc.ret ?_
                refine retQ_r (Le.refl _) (.tmp rfl (.tmp rfl .nil)) rfl ?_
                first
                  | (rw [valR_no (by rw [valE_err (by with_reducible assumption)]; assumption), valE_err (by with_reducible assumption)])
                  | (rw [valR_no (by rw [valE_ver (by with_reducible assumption) (by with_reducible assumption)]; decide), valE_ver (by with_reducible assumption) (by with_reducible assumption)])
                  | (rw [valR_no (by rw [valE_arg (by with_reducible assumption) (by with_reducible assumption) (.inl (by with_reducible assumption))]; decide), valE_arg (by with_reducible assumption) (by with_reducible assumption) (.inl (by with_reducible assumption))])
                  | (rw [valR_no (by rw [valE_arg (by with_reducible assumption) (by with_reducible assumption) (.inr (.inl (by with_reducible assumption)))]; decide), valE_arg (by with_reducible assumption) (by with_reducible assumption) (.inr (.inl (by with_reducible assumption)))])
                  | (rw [valR_no (by rw [valE_arg (by with_reducible assumption) (by with_reducible assumption) (.inr (.inr (by with_reducible assumption)))]; decide), valE_arg (by with_reducible assumption) (by with_reducible assumption) (.inr (.inr (by with_reducible assumption)))])
                  | (rw [hz, ← rval_leaf hz (by with_reducible assumption) ‹fo = _› ‹gr - 1 = _› rfl])
              · have ke11 := e11
                refine Wd.p .no rfl (.ixae (q := 1) rfl rfl e11 ae_94 (by decide)) rfl rfl rfl ?_
                refine Wd.ld (k := 0) .no rfl rfl rfl trivial (.ps 8 rfl hq8 rfl a_93 rfl) ?_
                refine Wd.p .no rfl (.move rfl) rfl rfl rfl ?_
                refine Wd.callV .no rfl rfl rfl rfl rfl (rvalue_ok _ _ _ _ (hl8 6 (by decide))) ?_
                refine Wd.p .no rfl (.assign rfl) rfl rfl rfl ?_
                refine Wd.nil (sq_n ?_)
                refine Wc.seq ?_
                refine Wc.region rfl ?_
                refine Wo.p .no rfl (.move rfl) ?_
                refine Wo.p .no rfl (.assign rfl) ?_
                refine Wo.p .no rfl (.assign rfl) ?_
                refine Wo.nil (sq_n ?_)
                refine Wc.ret ?_
                refine retQ_r (Le.refl _) (.tmp rfl (.tmp rfl .nil)) rfl ?_
                first
                  | (rw [valR_no (by rw [valE_err (by with_reducible assumption)]; assumption), valE_err (by with_reducible assumption)])
                  | (rw [valR_no (by rw [valE_ver (by with_reducible assumption) (by with_reducible assumption)]; decide), valE_ver (by with_reducible assumption) (by with_reducible assumption)])
                  | (rw [valR_no (by rw [valE_arg (by with_reducible assumption) (by with_reducible assumption) (.inl (by with_reducible assumption))]; decide), valE_arg (by with_reducible assumption) (by with_reducible assumption) (.inl (by with_reducible assumption))])
                  | (rw [valR_no (by rw [valE_arg (by with_reducible assumption) (by with_reducible assumption) (.inr (.inl (by with_reducible assumption)))]; decide), valE_arg (by with_reducible assumption) (by with_reducible assumption) (.inr (.inl (by with_reducible assumption)))])
                  | (rw [valR_no (by rw [valE_arg (by with_reducible assumption) (by with_reducible assumption) (.inr (.inr (by with_reducible assumption)))]; decide), valE_arg (by with_reducible assumption) (by with_reducible assumption) (.inr (.inr (by with_reducible assumption)))])
                  | (rw [hz, ← rval_leaf hz (by with_reducible assumption) ‹fo = _› ‹gr - 1 = _› rfl])
              · have ke11 := e11
                refine Wd.p .no rfl (.ixae (q := 2) rfl rfl e11 ae_94 (by decide)) rfl rfl rfl ?_
                refine Wd.ld (k := 0) .no rfl rfl rfl trivial (.ps 9 rfl hq8 rfl a_93 rfl) ?_
                refine Wd.p .no rfl (.move rfl) rfl rfl rfl ?_
                refine Wd.callV .no rfl rfl rfl rfl rfl (rvalue_ok _ _ _ _ (hl8 7 (by decide))) ?_
                refine Wd.p .no rfl (.assign rfl) rfl rfl rfl ?_
                refine Wd.nil (sq_n ?_)
                refine Wc.seq ?_
                refine Wc.region rfl ?_
                refine Wo.p .no rfl (.move rfl) ?_
                refine Wo.p .no rfl (.assign rfl) ?_
                refine Wo.p .no rfl (.assign rfl) ?_
                refine Wo.nil (sq_n ?_)
                refine Wc.ret ?_
                refine retQ_r (Le.refl _) (.tmp rfl (.tmp rfl .nil)) rfl ?_
                first
                  | (rw [valR_no (by rw [valE_err (by with_reducible assumption)]; assumption), valE_err (by with_reducible assumption)])
                  | (rw [valR_no (by rw [valE_ver (by with_reducible assumption) (by with_reducible assumption)]; decide), valE_ver (by with_reducible assumption) (by with_reducible assumption)])
                  | (rw [valR_no (by rw [valE_arg (by with_reducible assumption) (by with_reducible assumption) (.inl (by with_reducible assumption))]; decide), valE_arg (by with_reducible assumption) (by with_reducible assumption) (.inl (by with_reducible assumption))])
                  | (rw [valR_no (by rw [valE_arg (by with_reducible assumption) (by with_reducible assumption) (.inr (.inl (by with_reducible assumption)))]; decide), valE_arg (by with_reducible assumption) (by with_reducible assumption) (.inr (.inl (by with_reducible assumption)))])
                  | (rw [valR_no (by rw [valE_arg (by with_reducible assumption) (by with_reducible assumption) (.inr (.inr (by with_reducible assumption)))]; decide), valE_arg (by with_reducible assumption) (by with_reducible assumption) (.inr (.inr (by with_reducible assumption)))])
                  | (rw [hz, ← rval_leaf hz (by with_reducible assumption) ‹fo = _› ‹gr - 1 = _› rfl])
              · have ke11 := e11
                refine Wd.p .no rfl (.ixae (q := 3) rfl rfl e11 ae_94 (by decide)) rfl rfl rfl ?_
                refine Wd.ld (k := 0) .no rfl rfl rfl trivial (.ps 10 rfl hq8 rfl a_93 rfl) ?_
                refine Wd.p .no rfl (.move rfl) rfl rfl rfl ?_
                refine Wd.callV .no rfl rfl rfl rfl rfl (rvalue_ok _ _ _ _ (hl8 8 (by decide))) ?_
                refine Wd.p .no rfl (.assign rfl) rfl rfl rfl ?_
                refine Wd.nil (sq_n ?_)
                refine Wc.seq ?_
                refine Wc.region rfl ?_
                refine Wo.p .no rfl (.move rfl) ?_
                refine Wo.p .no rfl (.assign rfl) ?_
                refine Wo.p .no rfl (.assign rfl) ?_
                refine Wo.nil (sq_n ?_)
                refine Wc.ret ?_
                refine retQ_r (Le.refl _) (.tmp rfl (.tmp rfl .nil)) rfl ?_
                first
                  | (rw [valR_no (by rw [valE_err (by with_reducible assumption)]; assumption), valE_err (by with_reducible assumption)])
                  | (rw [valR_no (by rw [valE_ver (by with_reducible assumption) (by with_reducible assumption)]; decide), valE_ver (by with_reducible assumption) (by with_reducible assumption)])
                  | (rw [valR_no (by rw [valE_arg (by with_reducible assumption) (by with_reducible assumption) (.inl (by with_reducible assumption))]; decide), valE_arg (by with_reducible assumption) (by with_reducible assumption) (.inl (by with_reducible assumption))])
                  | (rw [valR_no (by rw [valE_arg (by with_reducible assumption) (by with_reducible assumption) (.inr (.inl (by with_reducible assumption)))]; decide), valE_arg (by with_reducible assumption) (by with_reducible assumption) (.inr (.inl (by with_reducible assumption)))])
                  | (rw [valR_no (by rw [valE_arg (by with_reducible assumption) (by with_reducible assumption) (.inr (.inr (by with_reducible assumption)))]; decide), valE_arg (by with_reducible assumption) (by with_reducible assumption) (.inr (.inr (by with_reducible assumption)))])
                  | (rw [hz, ← rval_leaf hz (by with_reducible assumption) ‹fo = _› ‹gr - 1 = _› rfl])
              · have ke11 := e11
                refine Wd.p .no rfl (.ixae (q := 4) rfl rfl e11 ae_94 (by decide)) rfl rfl rfl ?_
                refine Wd.ld (k := 0) .no rfl rfl rfl trivial (.ps 11 rfl hq8 rfl a_93 rfl) ?_
                refine Wd.p .no rfl (.move rfl) rfl rfl rfl ?_
                refine Wd.callV .no rfl rfl rfl rfl rfl (rvalue_ok _ _ _ _ (hl8 9 (by decide))) ?_
                refine Wd.p .no rfl (.assign rfl) rfl rfl rfl ?_
                refine Wd.nil (sq_n ?_)
                refine Wc.seq ?_
                refine Wc.region rfl ?_
                refine Wo.p .no rfl (.move rfl) ?_
                refine Wo.p .no rfl (.assign rfl) ?_
                refine Wo.p .no rfl (.assign rfl) ?_
                refine Wo.nil (sq_n ?_)
                refine Wc.ret ?_
                refine retQ_r (Le.refl _) (.tmp rfl (.tmp rfl .nil)) rfl ?_
                first
                  | (rw [valR_no (by rw [valE_err (by with_reducible assumption)]; assumption), valE_err (by with_reducible assumption)])
                  | (rw [valR_no (by rw [valE_ver (by with_reducible assumption) (by with_reducible assumption)]; decide), valE_ver (by with_reducible assumption) (by with_reducible assumption)])
                  | (rw [valR_no (by rw [valE_arg (by with_reducible assumption) (by with_reducible assumption) (.inl (by with_reducible assumption))]; decide), valE_arg (by with_reducible assumption) (by with_reducible assumption) (.inl (by with_reducible assumption))])
                  | (rw [valR_no (by rw [valE_arg (by with_reducible assumption) (by with_reducible assumption) (.inr (.inl (by with_reducible assumption)))]; decide), valE_arg (by with_reducible assumption) (by with_reducible assumption) (.inr (.inl (by with_reducible assumption)))])
                  | (rw [valR_no (by rw [valE_arg (by with_reducible assumption) (by with_reducible assumption) (.inr (.inr (by with_reducible assumption)))]; decide), valE_arg (by with_reducible assumption) (by with_reducible assumption) (.inr (.inr (by with_reducible assumption)))])
                  | (rw [hz, ← rval_leaf hz (by with_reducible assumption) ‹fo = _› ‹gr - 1 = _› rfl])
--REG r4.Value {'mode':'V','term':'(rValue_ok _ _ _ _ _ _ _ {0})','val':lambda s,n:V('tup',vals=[V('int'),V('int')])}
end Go.Proofs.YtjflgemfeofciaaGreatDoor
