import Derived.Test.YtjflgemfeofciaaGreatDoorVa4
/- Layer 4: tonnages, and the reference's. -/
namespace Go.Proofs.YtjflgemfeofciaaGreatDoor
open Go Go.Ev
set_option linter.unusedVariables false
set_option linter.unusedSimpArgs false
set_option maxRecDepth 10000
def downI (a : Int) : Int := if a.tmod 1000 < 0 then w64 (w64 (a.tdiv 1000) - 1) else w64 (a.tdiv 1000)
theorem down_ok (a : Int) (g : G) : Fv Tryz.prog natS (.f 134 [] []) [.i .i64 a, .i .i64 1000] g (.i .i64 (downI a)) := by
  refine Fw.fv ?_
  refine Fw.enter (N := 16) (al := [(1, _), (0, _)]) Tryz.func134 (by kernel_rfl) (by kernel_rfl) rfl rfl rfl rfl ?_
  intro B
  refine Wc.seq ?_
  refine Wc.region rfl ?_
  refine Wo.p .no rfl (.assign rfl) ?_
  refine Wo.nil (sq_n ?_)
  refine Wc.seq ?_
  refine Wc.region rfl ?_
  refine Wo.p .no rfl (.move rfl) ?_
  refine Wo.p .no rfl (.move rfl) ?_
  refine Wo.p .no rfl (.bin rfl rfl rfl) ?_
  refine Wo.p .no rfl (.assign rfl) ?_
  refine Wo.nil (sq_n ?_)
  refine Wc.seq ?_
  refine Wc.seq ?_
  refine Wc.region rfl ?_
  refine Wo.p .no rfl (.move rfl) ?_
  refine Wo.p .no rfl (.move rfl) ?_
  refine Wo.p .no rfl (.bin rfl rfl rfl) ?_
  refine Wo.p .no rfl (.bin rfl rfl rfl) ?_
  refine Wo.nil (sq_n ?_)
  refine Wc.cond rfl (fun h1 => ?_) (fun h1 => ?_)
  · have kh1 := h1; (try simp only [Bool.not_eq_true', Bool.not_eq_false', Bool.not_eq_true, Bool.not_eq_false, decide_eq_true_eq, decide_eq_false_iff_not, Int.not_lt, Int.not_le, Bool.not_eq_eq_eq_not, Bool.not_true, Bool.not_false] at kh1)
    refine Wc.region rfl ?_
    refine Wo.p .no rfl (.move rfl) ?_
    refine Wo.p .no rfl (.bin rfl rfl rfl) ?_
    refine Wo.p .no rfl (.assign rfl) ?_
    refine Wo.nil (sq_n ?_)
    refine Wc.seq ?_
    refine Wc.region rfl ?_
    refine Wo.p .no rfl (.move rfl) ?_
    refine Wo.p .no rfl (.assign rfl) ?_
    refine Wo.nil (sq_n ?_)
    refine Wc.ret ?_
    refine retQ_r (Le.refl _) (.tmp rfl .nil) rfl ?_
    refine congrArg (V.i .i64) ?_; unfold downI; first | (rw [if_pos (by omega)]; rfl) | (rw [if_neg (by omega)]; rfl)
  · have kh1 := h1; (try simp only [Bool.not_eq_true', Bool.not_eq_false', Bool.not_eq_true, Bool.not_eq_false, decide_eq_true_eq, decide_eq_false_iff_not, Int.not_lt, Int.not_le, Bool.not_eq_eq_eq_not, Bool.not_true, Bool.not_false] at kh1)
    refine Wc.skip (sq_n ?_)
    refine Wc.seq ?_
    refine Wc.region rfl ?_
    refine Wo.p .no rfl (.move rfl) ?_
    refine Wo.p .no rfl (.assign rfl) ?_
    refine Wo.nil (sq_n ?_)
    refine Wc.ret ?_
    refine retQ_r (Le.refl _) (.tmp rfl .nil) rfl ?_
    refine congrArg (V.i .i64) ?_; unfold downI; first | (rw [if_pos (by omega)]; rfl) | (rw [if_neg (by omega)]; rfl)
--REG c.down V (down_ok _ _)
theorem rDown_ok (a : Int) (g : G) : Fv Tryz.prog natS (.f 135 [] []) [.i .i64 a, .i .i64 1000] g (.i .i64 (downI a)) := by
  refine Fw.fv ?_
  refine Fw.enter (N := 16) (al := [(1, _), (0, _)]) Tryz.func135 (by kernel_rfl) (by kernel_rfl) rfl rfl rfl rfl ?_
  intro B
  refine Wc.seq ?_
  refine Wc.region rfl ?_
  refine Wo.p .no rfl (.assign rfl) ?_
  refine Wo.nil (sq_n ?_)
  refine Wc.seq ?_
  refine Wc.region rfl ?_
  refine Wo.p .no rfl (.move rfl) ?_
  refine Wo.p .no rfl (.move rfl) ?_
  refine Wo.p .no rfl (.bin rfl rfl rfl) ?_
  refine Wo.p .no rfl (.assign rfl) ?_
  refine Wo.nil (sq_n ?_)
  refine Wc.seq ?_
  refine Wc.seq ?_
  refine Wc.region rfl ?_
  refine Wo.p .no rfl (.move rfl) ?_
  refine Wo.p .no rfl (.move rfl) ?_
  refine Wo.p .no rfl (.bin rfl rfl rfl) ?_
  refine Wo.p .no rfl (.bin rfl rfl rfl) ?_
  refine Wo.nil (sq_n ?_)
  refine Wc.cond rfl (fun h1 => ?_) (fun h1 => ?_)
  · have kh1 := h1; (try simp only [Bool.not_eq_true', Bool.not_eq_false', Bool.not_eq_true, Bool.not_eq_false, decide_eq_true_eq, decide_eq_false_iff_not, Int.not_lt, Int.not_le, Bool.not_eq_eq_eq_not, Bool.not_true, Bool.not_false] at kh1)
    refine Wc.region rfl ?_
    refine Wo.p .no rfl (.move rfl) ?_
    refine Wo.p .no rfl (.bin rfl rfl rfl) ?_
    refine Wo.p .no rfl (.assign rfl) ?_
    refine Wo.nil (sq_n ?_)
    refine Wc.seq ?_
    refine Wc.region rfl ?_
    refine Wo.p .no rfl (.move rfl) ?_
    refine Wo.p .no rfl (.assign rfl) ?_
    refine Wo.nil (sq_n ?_)
    refine Wc.ret ?_
    refine retQ_r (Le.refl _) (.tmp rfl .nil) rfl ?_
    refine congrArg (V.i .i64) ?_; unfold downI; first | (rw [if_pos (by omega)]; rfl) | (rw [if_neg (by omega)]; rfl)
  · have kh1 := h1; (try simp only [Bool.not_eq_true', Bool.not_eq_false', Bool.not_eq_true, Bool.not_eq_false, decide_eq_true_eq, decide_eq_false_iff_not, Int.not_lt, Int.not_le, Bool.not_eq_eq_eq_not, Bool.not_true, Bool.not_false] at kh1)
    refine Wc.skip (sq_n ?_)
    refine Wc.seq ?_
    refine Wc.region rfl ?_
    refine Wo.p .no rfl (.move rfl) ?_
    refine Wo.p .no rfl (.assign rfl) ?_
    refine Wo.nil (sq_n ?_)
    refine Wc.ret ?_
    refine retQ_r (Le.refl _) (.tmp rfl .nil) rfl ?_
    refine congrArg (V.i .i64) ?_; unfold downI; first | (rw [if_pos (by omega)]; rfl) | (rw [if_neg (by omega)]; rfl)
--REG r4.Down V (rDown_ok _ _)
theorem rvalue_ok (l : List Piece) (n : Int) (v : V) (g : G) (h : RS PieceR 3 g v l) : Fv Tryz.prog natS (.f 91 [] []) [v, .i .i64 n] g (.i .i64 (refV l n)) := by
  refine Fw.fv ?_
  have hlen := h.1
  refine Fw.enter (N := 36) (al := [(1, _), (0, _)]) Tryz.func91 (by kernel_rfl) (by kernel_rfl) rfl rfl rfl rfl ?_
  intro B
  refine Wc.seq ?_
  refine Wc.region rfl ?_
  refine Wo.p .no rfl (.assign rfl) ?_
  refine Wo.nil (sq_n ?_)
  refine Wc.seq ?_
  refine Wc.region rfl ?_
  refine Wo.p .no rfl (.assign rfl) ?_
  refine Wo.nil (sq_n ?_)
  refine Wc.seq ?_
  refine Wc.seq ?_
  refine Wc.region rfl ?_
  refine Wo.p .no rfl (.assign rfl) ?_
  refine Wo.nil (sq_n ?_)
  refine Wc.block ?_
  refine Wc.loopx (α := Nat × Int) [(0, _), (1, _)] _ (fun fx x => (5, .i .i64 x.2) :: (6, .i .i64 (x.1 : Int)) :: fx) (fun mx _ => mx) (fun x g' => x.1 ≤ l.length ∧ rvF n (l.drop x.1) x.2 = refV l n) (fun x => l.length - x.1) ((0, 0)) ⟨rfl, rfl, rfl, rfl, trivial⟩ (List.Sublist.refl _) ⟨by simp, rfl⟩ ?_
  intro x g2 hle1 hJ
  obtain ⟨hk, hg⟩ := hJ
  replace h := h.mono PieceR.mono hle1
  obtain ⟨k, out⟩ := x
  simp only at hk hg
  refine Wc.seq ?_
  refine Wc.seq ?_
  refine Wc.region rfl ?_
  refine Wo.p .no rfl (.move rfl) ?_
  refine Wo.p .no rfl (.move rfl) ?_
  refine Wo.p .no rfl (.lenR rfl rfl rfl e_93 h) ?_
  refine Wo.p .no rfl (.bin rfl rfl rfl) ?_
  refine Wo.p .no rfl (.move rfl) ?_
  refine Wo.split (t := 11) rfl (fun h3 => ?_) (fun h3 => ?_)
  · have kh3 := h3; (try simp only [Bool.not_eq_true', Bool.not_eq_false', Bool.not_eq_true, Bool.not_eq_false, decide_eq_true_eq, decide_eq_false_iff_not, Int.not_lt, Int.not_le, Bool.not_eq_eq_eq_not, Bool.not_true, Bool.not_false] at kh3)
    refine Wo.p (.yes rfl rfl h3) rfl (.move rfl) ?_
    refine Wo.p (.yes rfl rfl h3) rfl (.move rfl) ?_
    refine Wo.ixn (.yes rfl rfl h3) rfl rfl h rfl e_93 (by omega) ?_
    intro b4 o4 cs4 y4 hy4 hq4 hr4
    obtain rfl := hr4
    refine Wo.p (.yes rfl rfl h3) rfl (.fa rfl f_157_0) ?_
    refine Wo.ld (.yes rfl rfl h3) rfl (.ps 0 rfl hq4 rfl a_3 rfl) ?_
    refine Wo.p (.yes rfl rfl h3) rfl (.move rfl) ?_
    refine Wo.p (.yes rfl rfl h3) rfl (.bin rfl rfl rfl) ?_
    refine Wo.p .no rfl (.pickT rfl h3 rfl) ?_
    refine Wo.nil (sq_n ?_)
    refine Wc.cond rfl (fun h5 => ?_) (fun h5 => ?_)
    · have kh5 := h5; (try simp only [Bool.not_eq_true', Bool.not_eq_false', Bool.not_eq_true, Bool.not_eq_false, decide_eq_true_eq, decide_eq_false_iff_not, Int.not_lt, Int.not_le, Bool.not_eq_eq_eq_not, Bool.not_true, Bool.not_false] at kh5)
      refine Wc.skip (sq_n ?_)
      refine Wc.seq ?_
      refine Wc.block ?_
      refine Wc.draw (tb := [⟨0, 0, false⟩, ⟨0, 0, false⟩, ⟨3, 0, false⟩, ⟨7, 0, false⟩, ⟨15, 0, false⟩, ⟨0, 0, false⟩, ⟨0, 0, false⟩, ⟨96, 0, false⟩, ⟨224, 0, false⟩, ⟨480, 0, false⟩, ⟨0, 0, false⟩, ⟨2016, 0, false⟩, ⟨4095, 0, true⟩, ⟨8191, 0, true⟩]) rfl (by kernel_rfl) (by kernel_rfl) ?_
      refine Wd.p .no rfl (.move rfl) rfl rfl rfl ?_
      refine Wd.p .no rfl (.move rfl) rfl rfl rfl ?_
      refine Wd.ixn .no rfl rfl h rfl e_93 (by omega) ?_
      intro b6 o6 cs6 y6 hy6 hq6 hr6
      obtain rfl : y4 = y6 := Option.some.inj (hy4.symm.trans hy6)
      obtain rfl := hr6
      refine Wd.p .no rfl (.fa rfl f_157_1) rfl rfl rfl ?_
      refine Wd.ld (k := 0) .no rfl rfl rfl trivial (.ps 1 rfl hq6 rfl a_3 rfl) ?_
      refine Wd.p .no rfl (.move rfl) rfl rfl rfl ?_
      refine Wd.p .no rfl (.move rfl) rfl rfl rfl ?_
      refine Wd.ixn .no rfl rfl h rfl e_93 (by omega) ?_
      intro b7 o7 cs7 y7 hy7 hq7 hr7
      obtain rfl : y4 = y7 := Option.some.inj (hy4.symm.trans hy7)
      obtain rfl := hr7
      refine Wd.p .no rfl (.fa rfl f_157_2) rfl rfl rfl ?_
      refine Wd.ld (k := 0) .no rfl rfl rfl trivial (.ps 2 rfl hq7 rfl a_3 rfl) ?_
      refine Wd.p .no rfl (.move rfl) rfl rfl rfl ?_
      refine Wd.p .no rfl (.bin rfl rfl rfl) rfl rfl rfl ?_
      refine Wd.p .no rfl (.bin rfl rfl rfl) rfl rfl rfl ?_
      refine Wd.p .no rfl (.assign rfl) rfl rfl rfl ?_
      refine Wd.nil (bq_n (sq_n ?_))
      refine Wc.region rfl ?_
      refine Wo.p .no rfl (.move rfl) ?_
      refine Wo.p .no rfl (.inc1 rfl rfl (by omega)) ?_
      refine Wo.p .no rfl (.assign rfl) ?_
      refine Wo.nil ?_
      refine loopQ_n ((k + 1, _)) ⟨rfl, rfl, rfl, rfl, trivial⟩ (List.Sublist.refl _) (Le.refl _) ?_ ?_
      · refine ⟨by simp only; omega, ?_⟩; rw [← hg, dc (k := k) (by with_reducible assumption)]; simp only [rvF]; rw [if_pos (by omega)]; rfl
      · simp only; omega
    · have kh5 := h5; (try simp only [Bool.not_eq_true', Bool.not_eq_false', Bool.not_eq_true, Bool.not_eq_false, decide_eq_true_eq, decide_eq_false_iff_not, Int.not_lt, Int.not_le, Bool.not_eq_eq_eq_not, Bool.not_true, Bool.not_false] at kh5)
      refine Wc.exit (sq_e (lq_e (bq_x rfl (sq_n ?_))))
      refine Wc.seq ?_
      refine Wc.region rfl ?_
      refine Wo.p .no rfl (.move rfl) ?_
      refine Wo.p .no rfl (.assign rfl) ?_
      refine Wo.nil (sq_n ?_)
      refine Wc.ret ?_
      refine retQ_r hle1 (.tmp rfl .nil) rfl ?_
      refine congrArg (V.i .i64) ?_
      rw [← hg]
      first
        | (rw [dn (by omega)]; rfl)
        | (rw [dc (k := k) (by with_reducible assumption)]; simp only [rvF]; rw [if_neg (by omega)])
  · have kh3 := h3; (try simp only [Bool.not_eq_true', Bool.not_eq_false', Bool.not_eq_true, Bool.not_eq_false, decide_eq_true_eq, decide_eq_false_iff_not, Int.not_lt, Int.not_le, Bool.not_eq_eq_eq_not, Bool.not_true, Bool.not_false] at kh3)
    refine Wo.skip (.yes rfl rfl h3) rfl ?_
    refine Wo.skip (.yes rfl rfl h3) rfl ?_
    refine Wo.skip (.yes rfl rfl h3) rfl ?_
    refine Wo.skip (.yes rfl rfl h3) rfl ?_
    refine Wo.skip (.yes rfl rfl h3) rfl ?_
    refine Wo.skip (.yes rfl rfl h3) rfl ?_
    refine Wo.skip (.yes rfl rfl h3) rfl ?_
    refine Wo.p .no rfl (.pickF rfl h3 rfl) ?_
    refine Wo.nil (sq_n ?_)
    refine Wc.condF rfl rfl ?_
    refine Wc.exit (sq_e (lq_e (bq_x rfl (sq_n ?_))))
    refine Wc.seq ?_
    refine Wc.region rfl ?_
    refine Wo.p .no rfl (.move rfl) ?_
    refine Wo.p .no rfl (.assign rfl) ?_
    refine Wo.nil (sq_n ?_)
    refine Wc.ret ?_
    refine retQ_r hle1 (.tmp rfl .nil) rfl ?_
    refine congrArg (V.i .i64) ?_
    rw [← hg]
    first
      | (rw [dn (by omega)]; rfl)
      | (rw [dc (k := k) (by with_reducible assumption)]; simp only [rvF]; rw [if_neg (by omega)])
--REG r4.value V (rvalue_ok _ _ _ _ {0})
--REG c.compiled {'mode':'W','term':'(compiled_ok _ {0}.any {0}.cells _)','pat':'⟨b#, rfl, rfl, hb#⟩','val':lambda s,n:V('fn',clos=n),'facts':{'hb#':'L _ _ F'}}
def wadd (a b : Int) : Int := w64 (a + b)
def tonS (f : List Piece → Int → Int) (v : Version) (k : Nat) (x0 x1 x2 x3 x4 : Int) : Int := wadd (wadd (wadd (wadd (wadd 0 (f (v.ln (5 * k)) x0)) (f (v.ln (5 * k + 1)) x1)) (f (v.ln (5 * k + 2)) x2)) (f (v.ln (5 * k + 3)) x3)) (f (v.ln (5 * k + 4)) x4)
theorem tonnage_ok (v : Version) (fo : Int) (x0 x1 x2 x3 x4 : Int) (cs : List V) (g : G) (h : VersionR g cs v) (hf : fo = 0 ∨ fo = 1) : Fv Tryz.prog natS (.f 84 [] []) [.agg cs, .i .i64 fo, .agg [.i .i64 x0, .i .i64 x1, .i .i64 x2, .i .i64 x3, .i .i64 x4]] g (.i .i64 (downI (tonS closV v fo.toNat x0 x1 x2 x3 x4))) := by
  obtain ⟨p, lv, rfl, hp, hl⟩ := h
  refine Fw.fv ?_
  rcases hf with rfl | rfl
  · skip
    refine Fw.enter (N := 29) (al := [(2, _), (1, _), (0, _)]) Tryz.func84 (by kernel_rfl) (by kernel_rfl) rfl rfl rfl rfl ?_
    intro B
    refine Wc.seq ?_
    refine Wc.region rfl ?_
    refine Wo.box .no rfl rfl rfl rfl (fun b1 => ?_)
    refine Wo.box .no rfl rfl rfl rfl (fun b2 => ?_)
    refine Wo.p .no rfl (.assign rfl) ?_
    refine Wo.nil (sq_n ?_)
    refine Wc.seq ?_
    refine Wc.region rfl ?_
    refine Wo.p .no rfl (.assign rfl) ?_
    refine Wo.nil (sq_n ?_)
    refine Wc.seq ?_
    refine Wc.seq ?_
    refine Wc.region rfl ?_
    refine Wo.ld .no rfl (.a (vs := [_, _, _, _, _]) rfl .hd a_38 s_38 rfl rfl) ?_
    refine Wo.p .no rfl (.move rfl) ?_
    refine Wo.nil (sq_n ?_)
    refine Wc.block ?_
    refine Wc.unroll ?_
    refine Wc.seq ?_
    refine Wc.region rfl ?_
    refine Wo.p .no rfl (.bin rfl rfl rfl) ?_
    refine Wo.nil (sq_n ?_)
    refine Wc.seq ?_
    refine Wc.condT rfl (by decide) ?_
    refine Wc.skip (sq_n ?_)
    refine Wc.seq ?_
    refine Wc.block ?_
    refine Wc.seq ?_
    refine Wc.region rfl ?_
    refine Wo.p .no rfl (.move rfl) ?_
    refine Wo.p .no rfl (.ixv (j := 0) rfl rfl ar_38 s_3 (by decide) (by rfl)) ?_
    refine Wo.p .no rfl (.assign rfl) ?_
    refine Wo.p .no rfl (.assign rfl) ?_
    refine Wo.nil (sq_n ?_)
    refine Wc.region rfl ?_
    refine Wo.p .no rfl (.move rfl) ?_
    refine Wo.p .no rfl (.move rfl) ?_
    refine Wo.p .no rfl (.move rfl) ?_
    refine Wo.p .no rfl (.fa rfl f_97_2) ?_
    refine Wo.p .no rfl (.ixa (j := 0) rfl rfl ae_95 (by decide)) ?_
    refine Wo.p .no rfl (.ixa (j := 0) rfl rfl ae_94 (by decide)) ?_
    refine Wo.ld .no rfl (.s rfl (.tl .hd) a_93 rfl) ?_
    refine Wo.call .no rfl rfl rfl (compiled_ok _ (hl 0 (by decide)).any (hl 0 (by decide)).cells _) ?_
    rintro g3 ml3 r3 hle3 ⟨b3, rfl, rfl, hb3⟩
    replace hp := hp.mono PutR.mono hle3
    replace hl := fun k hk => (hl k hk).mono PieceR.mono hle3
    refine Wo.p .no rfl (.move rfl) ?_
    refine Wo.callV .no rfl rfl rfl (closure_ok _ _ _ _ _ hb3 (hl 0 (by decide))) ?_
    refine Wo.p .no rfl (.bin rfl rfl rfl) ?_
    refine Wo.p .no rfl (.assign rfl) ?_
    refine Wo.nil (bq_n (sq_n ?_))
    refine Wc.region rfl ?_
    refine Wo.p .no rfl (.addL (c := 1) rfl rfl rfl (by decide)) ?_
    refine Wo.p .no rfl (.move rfl) ?_
    refine Wo.nil (sq_n ?_)
    refine Wc.unroll ?_
    refine Wc.seq ?_
    refine Wc.region rfl ?_
    refine Wo.p .no rfl (.bin rfl rfl rfl) ?_
    refine Wo.nil (sq_n ?_)
    refine Wc.seq ?_
    refine Wc.condT rfl (by decide) ?_
    refine Wc.skip (sq_n ?_)
    refine Wc.seq ?_
    refine Wc.block ?_
    refine Wc.seq ?_
    refine Wc.region rfl ?_
    refine Wo.p .no rfl (.move rfl) ?_
    refine Wo.p .no rfl (.ixv (j := 1) rfl rfl ar_38 s_3 (by decide) (by rfl)) ?_
    refine Wo.p .no rfl (.assign rfl) ?_
    refine Wo.p .no rfl (.assign rfl) ?_
    refine Wo.nil (sq_n ?_)
    refine Wc.region rfl ?_
    refine Wo.p .no rfl (.move rfl) ?_
    refine Wo.p .no rfl (.move rfl) ?_
    refine Wo.p .no rfl (.move rfl) ?_
    refine Wo.p .no rfl (.fa rfl f_97_2) ?_
    refine Wo.p .no rfl (.ixa (j := 0) rfl rfl ae_95 (by decide)) ?_
    refine Wo.p .no rfl (.ixa (j := 1) rfl rfl ae_94 (by decide)) ?_
    refine Wo.ld .no rfl (.s rfl (.tl .hd) a_93 rfl) ?_
    refine Wo.call .no rfl rfl rfl (compiled_ok _ (hl 1 (by decide)).any (hl 1 (by decide)).cells _) ?_
    rintro g4 ml4 r4 hle4 ⟨b4, rfl, rfl, hb4⟩
    replace hp := hp.mono PutR.mono hle4
    replace hl := fun k hk => (hl k hk).mono PieceR.mono hle4
    replace hb3 := hle4 _ _ hb3
    refine Wo.p .no rfl (.move rfl) ?_
    refine Wo.callV .no rfl rfl rfl (closure_ok _ _ _ _ _ hb4 (hl 1 (by decide))) ?_
    refine Wo.p .no rfl (.bin rfl rfl rfl) ?_
    refine Wo.p .no rfl (.assign rfl) ?_
    refine Wo.nil (bq_n (sq_n ?_))
    refine Wc.region rfl ?_
    refine Wo.p .no rfl (.addL (c := 2) rfl rfl rfl (by decide)) ?_
    refine Wo.p .no rfl (.move rfl) ?_
    refine Wo.nil (sq_n ?_)
    refine Wc.unroll ?_
    refine Wc.seq ?_
    refine Wc.region rfl ?_
    refine Wo.p .no rfl (.bin rfl rfl rfl) ?_
    refine Wo.nil (sq_n ?_)
    refine Wc.seq ?_
    refine Wc.condT rfl (by decide) ?_
    refine Wc.skip (sq_n ?_)
    refine Wc.seq ?_
    refine Wc.block ?_
    refine Wc.seq ?_
    refine Wc.region rfl ?_
    refine Wo.p .no rfl (.move rfl) ?_
    refine Wo.p .no rfl (.ixv (j := 2) rfl rfl ar_38 s_3 (by decide) (by rfl)) ?_
    refine Wo.p .no rfl (.assign rfl) ?_
    refine Wo.p .no rfl (.assign rfl) ?_
    refine Wo.nil (sq_n ?_)
    refine Wc.region rfl ?_
    refine Wo.p .no rfl (.move rfl) ?_
    refine Wo.p .no rfl (.move rfl) ?_
    refine Wo.p .no rfl (.move rfl) ?_
    refine Wo.p .no rfl (.fa rfl f_97_2) ?_
    refine Wo.p .no rfl (.ixa (j := 0) rfl rfl ae_95 (by decide)) ?_
    refine Wo.p .no rfl (.ixa (j := 2) rfl rfl ae_94 (by decide)) ?_
    refine Wo.ld .no rfl (.s rfl (.tl .hd) a_93 rfl) ?_
    refine Wo.call .no rfl rfl rfl (compiled_ok _ (hl 2 (by decide)).any (hl 2 (by decide)).cells _) ?_
    rintro g5 ml5 r5 hle5 ⟨b5, rfl, rfl, hb5⟩
    replace hp := hp.mono PutR.mono hle5
    replace hl := fun k hk => (hl k hk).mono PieceR.mono hle5
    replace hb3 := hle5 _ _ hb3
    replace hb4 := hle5 _ _ hb4
    refine Wo.p .no rfl (.move rfl) ?_
    refine Wo.callV .no rfl rfl rfl (closure_ok _ _ _ _ _ hb5 (hl 2 (by decide))) ?_
    refine Wo.p .no rfl (.bin rfl rfl rfl) ?_
    refine Wo.p .no rfl (.assign rfl) ?_
    refine Wo.nil (bq_n (sq_n ?_))
    refine Wc.region rfl ?_
    refine Wo.p .no rfl (.addL (c := 3) rfl rfl rfl (by decide)) ?_
    refine Wo.p .no rfl (.move rfl) ?_
    refine Wo.nil (sq_n ?_)
    refine Wc.unroll ?_
    refine Wc.seq ?_
    refine Wc.region rfl ?_
    refine Wo.p .no rfl (.bin rfl rfl rfl) ?_
    refine Wo.nil (sq_n ?_)
    refine Wc.seq ?_
    refine Wc.condT rfl (by decide) ?_
    refine Wc.skip (sq_n ?_)
    refine Wc.seq ?_
    refine Wc.block ?_
    refine Wc.seq ?_
    refine Wc.region rfl ?_
    refine Wo.p .no rfl (.move rfl) ?_
    refine Wo.p .no rfl (.ixv (j := 3) rfl rfl ar_38 s_3 (by decide) (by rfl)) ?_
    refine Wo.p .no rfl (.assign rfl) ?_
    refine Wo.p .no rfl (.assign rfl) ?_
    refine Wo.nil (sq_n ?_)
    refine Wc.region rfl ?_
    refine Wo.p .no rfl (.move rfl) ?_
    refine Wo.p .no rfl (.move rfl) ?_
    refine Wo.p .no rfl (.move rfl) ?_
    refine Wo.p .no rfl (.fa rfl f_97_2) ?_
    refine Wo.p .no rfl (.ixa (j := 0) rfl rfl ae_95 (by decide)) ?_
    refine Wo.p .no rfl (.ixa (j := 3) rfl rfl ae_94 (by decide)) ?_
    refine Wo.ld .no rfl (.s rfl (.tl .hd) a_93 rfl) ?_
    refine Wo.call .no rfl rfl rfl (compiled_ok _ (hl 3 (by decide)).any (hl 3 (by decide)).cells _) ?_
    rintro g6 ml6 r6 hle6 ⟨b6, rfl, rfl, hb6⟩
    replace hp := hp.mono PutR.mono hle6
    replace hl := fun k hk => (hl k hk).mono PieceR.mono hle6
    replace hb3 := hle6 _ _ hb3
    replace hb4 := hle6 _ _ hb4
    replace hb5 := hle6 _ _ hb5
    refine Wo.p .no rfl (.move rfl) ?_
    refine Wo.callV .no rfl rfl rfl (closure_ok _ _ _ _ _ hb6 (hl 3 (by decide))) ?_
    refine Wo.p .no rfl (.bin rfl rfl rfl) ?_
    refine Wo.p .no rfl (.assign rfl) ?_
    refine Wo.nil (bq_n (sq_n ?_))
    refine Wc.region rfl ?_
    refine Wo.p .no rfl (.addL (c := 4) rfl rfl rfl (by decide)) ?_
    refine Wo.p .no rfl (.move rfl) ?_
    refine Wo.nil (sq_n ?_)
    refine Wc.unroll ?_
    refine Wc.seq ?_
    refine Wc.region rfl ?_
    refine Wo.p .no rfl (.bin rfl rfl rfl) ?_
    refine Wo.nil (sq_n ?_)
    refine Wc.seq ?_
    refine Wc.condT rfl (by decide) ?_
    refine Wc.skip (sq_n ?_)
    refine Wc.seq ?_
    refine Wc.block ?_
    refine Wc.seq ?_
    refine Wc.region rfl ?_
    refine Wo.p .no rfl (.move rfl) ?_
    refine Wo.p .no rfl (.ixv (j := 4) rfl rfl ar_38 s_3 (by decide) (by rfl)) ?_
    refine Wo.p .no rfl (.assign rfl) ?_
    refine Wo.p .no rfl (.assign rfl) ?_
    refine Wo.nil (sq_n ?_)
    refine Wc.region rfl ?_
    refine Wo.p .no rfl (.move rfl) ?_
    refine Wo.p .no rfl (.move rfl) ?_
    refine Wo.p .no rfl (.move rfl) ?_
    refine Wo.p .no rfl (.fa rfl f_97_2) ?_
    refine Wo.p .no rfl (.ixa (j := 0) rfl rfl ae_95 (by decide)) ?_
    refine Wo.p .no rfl (.ixa (j := 4) rfl rfl ae_94 (by decide)) ?_
    refine Wo.ld .no rfl (.s rfl (.tl .hd) a_93 rfl) ?_
    refine Wo.call .no rfl rfl rfl (compiled_ok _ (hl 4 (by decide)).any (hl 4 (by decide)).cells _) ?_
    rintro g7 ml7 r7 hle7 ⟨b7, rfl, rfl, hb7⟩
    replace hp := hp.mono PutR.mono hle7
    replace hl := fun k hk => (hl k hk).mono PieceR.mono hle7
    replace hb3 := hle7 _ _ hb3
    replace hb4 := hle7 _ _ hb4
    replace hb5 := hle7 _ _ hb5
    replace hb6 := hle7 _ _ hb6
    refine Wo.p .no rfl (.move rfl) ?_
    refine Wo.callV .no rfl rfl rfl (closure_ok _ _ _ _ _ hb7 (hl 4 (by decide))) ?_
    refine Wo.p .no rfl (.bin rfl rfl rfl) ?_
    refine Wo.p .no rfl (.assign rfl) ?_
    refine Wo.nil (bq_n (sq_n ?_))
    refine Wc.region rfl ?_
    refine Wo.p .no rfl (.addL (c := 5) rfl rfl rfl (by decide)) ?_
    refine Wo.p .no rfl (.move rfl) ?_
    refine Wo.nil (sq_n ?_)
    refine Wc.unroll ?_
    refine Wc.seq ?_
    refine Wc.region rfl ?_
    refine Wo.p .no rfl (.bin rfl rfl rfl) ?_
    refine Wo.nil (sq_n ?_)
    refine Wc.seq ?_
    refine Wc.condF rfl (by decide) ?_
    refine Wc.exit (sq_e (sq_e (bq_x rfl (sq_n ?_))))
    refine Wc.seq ?_
    refine Wc.region rfl ?_
    refine Wo.p .no rfl (.move rfl) ?_
    refine Wo.callV .no rfl rfl rfl (down_ok _ _) ?_
    refine Wo.p .no rfl (.assign rfl) ?_
    refine Wo.nil (sq_n ?_)
    refine Wc.ret ?_
    refine retQ_r ((((hle3.trans hle4).trans hle5).trans hle6).trans hle7) (.tmp rfl .nil) rfl ?_
    rfl
  · skip
    refine Fw.enter (N := 29) (al := [(2, _), (1, _), (0, _)]) Tryz.func84 (by kernel_rfl) (by kernel_rfl) rfl rfl rfl rfl ?_
    intro B
    refine Wc.seq ?_
    refine Wc.region rfl ?_
    refine Wo.box .no rfl rfl rfl rfl (fun b1 => ?_)
    refine Wo.box .no rfl rfl rfl rfl (fun b2 => ?_)
    refine Wo.p .no rfl (.assign rfl) ?_
    refine Wo.nil (sq_n ?_)
    refine Wc.seq ?_
    refine Wc.region rfl ?_
    refine Wo.p .no rfl (.assign rfl) ?_
    refine Wo.nil (sq_n ?_)
    refine Wc.seq ?_
    refine Wc.seq ?_
    refine Wc.region rfl ?_
    refine Wo.ld .no rfl (.a (vs := [_, _, _, _, _]) rfl .hd a_38 s_38 rfl rfl) ?_
    refine Wo.p .no rfl (.move rfl) ?_
    refine Wo.nil (sq_n ?_)
    refine Wc.block ?_
    refine Wc.unroll ?_
    refine Wc.seq ?_
    refine Wc.region rfl ?_
    refine Wo.p .no rfl (.bin rfl rfl rfl) ?_
    refine Wo.nil (sq_n ?_)
    refine Wc.seq ?_
    refine Wc.condT rfl (by decide) ?_
    refine Wc.skip (sq_n ?_)
    refine Wc.seq ?_
    refine Wc.block ?_
    refine Wc.seq ?_
    refine Wc.region rfl ?_
    refine Wo.p .no rfl (.move rfl) ?_
    refine Wo.p .no rfl (.ixv (j := 0) rfl rfl ar_38 s_3 (by decide) (by rfl)) ?_
    refine Wo.p .no rfl (.assign rfl) ?_
    refine Wo.p .no rfl (.assign rfl) ?_
    refine Wo.nil (sq_n ?_)
    refine Wc.region rfl ?_
    refine Wo.p .no rfl (.move rfl) ?_
    refine Wo.p .no rfl (.move rfl) ?_
    refine Wo.p .no rfl (.move rfl) ?_
    refine Wo.p .no rfl (.fa rfl f_97_2) ?_
    refine Wo.p .no rfl (.ixa (j := 1) rfl rfl ae_95 (by decide)) ?_
    refine Wo.p .no rfl (.ixa (j := 0) rfl rfl ae_94 (by decide)) ?_
    refine Wo.ld .no rfl (.s rfl (.tl .hd) a_93 rfl) ?_
    refine Wo.call .no rfl rfl rfl (compiled_ok _ (hl 5 (by decide)).any (hl 5 (by decide)).cells _) ?_
    rintro g3 ml3 r3 hle3 ⟨b3, rfl, rfl, hb3⟩
    replace hp := hp.mono PutR.mono hle3
    replace hl := fun k hk => (hl k hk).mono PieceR.mono hle3
    refine Wo.p .no rfl (.move rfl) ?_
    refine Wo.callV .no rfl rfl rfl (closure_ok _ _ _ _ _ hb3 (hl 5 (by decide))) ?_
    refine Wo.p .no rfl (.bin rfl rfl rfl) ?_
    refine Wo.p .no rfl (.assign rfl) ?_
    refine Wo.nil (bq_n (sq_n ?_))
    refine Wc.region rfl ?_
    refine Wo.p .no rfl (.addL (c := 1) rfl rfl rfl (by decide)) ?_
    refine Wo.p .no rfl (.move rfl) ?_
    refine Wo.nil (sq_n ?_)
    refine Wc.unroll ?_
    refine Wc.seq ?_
    refine Wc.region rfl ?_
    refine Wo.p .no rfl (.bin rfl rfl rfl) ?_
    refine Wo.nil (sq_n ?_)
    refine Wc.seq ?_
    refine Wc.condT rfl (by decide) ?_
    refine Wc.skip (sq_n ?_)
    refine Wc.seq ?_
    refine Wc.block ?_
    refine Wc.seq ?_
    refine Wc.region rfl ?_
    refine Wo.p .no rfl (.move rfl) ?_
    refine Wo.p .no rfl (.ixv (j := 1) rfl rfl ar_38 s_3 (by decide) (by rfl)) ?_
    refine Wo.p .no rfl (.assign rfl) ?_
    refine Wo.p .no rfl (.assign rfl) ?_
    refine Wo.nil (sq_n ?_)
    refine Wc.region rfl ?_
    refine Wo.p .no rfl (.move rfl) ?_
    refine Wo.p .no rfl (.move rfl) ?_
    refine Wo.p .no rfl (.move rfl) ?_
    refine Wo.p .no rfl (.fa rfl f_97_2) ?_
    refine Wo.p .no rfl (.ixa (j := 1) rfl rfl ae_95 (by decide)) ?_
    refine Wo.p .no rfl (.ixa (j := 1) rfl rfl ae_94 (by decide)) ?_
    refine Wo.ld .no rfl (.s rfl (.tl .hd) a_93 rfl) ?_
    refine Wo.call .no rfl rfl rfl (compiled_ok _ (hl 6 (by decide)).any (hl 6 (by decide)).cells _) ?_
    rintro g4 ml4 r4 hle4 ⟨b4, rfl, rfl, hb4⟩
    replace hp := hp.mono PutR.mono hle4
    replace hl := fun k hk => (hl k hk).mono PieceR.mono hle4
    replace hb3 := hle4 _ _ hb3
    refine Wo.p .no rfl (.move rfl) ?_
    refine Wo.callV .no rfl rfl rfl (closure_ok _ _ _ _ _ hb4 (hl 6 (by decide))) ?_
    refine Wo.p .no rfl (.bin rfl rfl rfl) ?_
    refine Wo.p .no rfl (.assign rfl) ?_
    refine Wo.nil (bq_n (sq_n ?_))
    refine Wc.region rfl ?_
    refine Wo.p .no rfl (.addL (c := 2) rfl rfl rfl (by decide)) ?_
    refine Wo.p .no rfl (.move rfl) ?_
    refine Wo.nil (sq_n ?_)
    refine Wc.unroll ?_
    refine Wc.seq ?_
    refine Wc.region rfl ?_
    refine Wo.p .no rfl (.bin rfl rfl rfl) ?_
    refine Wo.nil (sq_n ?_)
    refine Wc.seq ?_
    refine Wc.condT rfl (by decide) ?_
    refine Wc.skip (sq_n ?_)
    refine Wc.seq ?_
    refine Wc.block ?_
    refine Wc.seq ?_
    refine Wc.region rfl ?_
    refine Wo.p .no rfl (.move rfl) ?_
    refine Wo.p .no rfl (.ixv (j := 2) rfl rfl ar_38 s_3 (by decide) (by rfl)) ?_
    refine Wo.p .no rfl (.assign rfl) ?_
    refine Wo.p .no rfl (.assign rfl) ?_
    refine Wo.nil (sq_n ?_)
    refine Wc.region rfl ?_
    refine Wo.p .no rfl (.move rfl) ?_
    refine Wo.p .no rfl (.move rfl) ?_
    refine Wo.p .no rfl (.move rfl) ?_
    refine Wo.p .no rfl (.fa rfl f_97_2) ?_
    refine Wo.p .no rfl (.ixa (j := 1) rfl rfl ae_95 (by decide)) ?_
    refine Wo.p .no rfl (.ixa (j := 2) rfl rfl ae_94 (by decide)) ?_
    refine Wo.ld .no rfl (.s rfl (.tl .hd) a_93 rfl) ?_
    refine Wo.call .no rfl rfl rfl (compiled_ok _ (hl 7 (by decide)).any (hl 7 (by decide)).cells _) ?_
    rintro g5 ml5 r5 hle5 ⟨b5, rfl, rfl, hb5⟩
    replace hp := hp.mono PutR.mono hle5
    replace hl := fun k hk => (hl k hk).mono PieceR.mono hle5
    replace hb3 := hle5 _ _ hb3
    replace hb4 := hle5 _ _ hb4
    refine Wo.p .no rfl (.move rfl) ?_
    refine Wo.callV .no rfl rfl rfl (closure_ok _ _ _ _ _ hb5 (hl 7 (by decide))) ?_
    refine Wo.p .no rfl (.bin rfl rfl rfl) ?_
    refine Wo.p .no rfl (.assign rfl) ?_
    refine Wo.nil (bq_n (sq_n ?_))
    refine Wc.region rfl ?_
    refine Wo.p .no rfl (.addL (c := 3) rfl rfl rfl (by decide)) ?_
    refine Wo.p .no rfl (.move rfl) ?_
    refine Wo.nil (sq_n ?_)
    refine Wc.unroll ?_
    refine Wc.seq ?_
    refine Wc.region rfl ?_
    refine Wo.p .no rfl (.bin rfl rfl rfl) ?_
    refine Wo.nil (sq_n ?_)
    refine Wc.seq ?_
    refine Wc.condT rfl (by decide) ?_
    refine Wc.skip (sq_n ?_)
    refine Wc.seq ?_
    refine Wc.block ?_
    refine Wc.seq ?_
    refine Wc.region rfl ?_
    refine Wo.p .no rfl (.move rfl) ?_
    refine Wo.p .no rfl (.ixv (j := 3) rfl rfl ar_38 s_3 (by decide) (by rfl)) ?_
    refine Wo.p .no rfl (.assign rfl) ?_
    refine Wo.p .no rfl (.assign rfl) ?_
    refine Wo.nil (sq_n ?_)
    refine Wc.region rfl ?_
    refine Wo.p .no rfl (.move rfl) ?_
    refine Wo.p .no rfl (.move rfl) ?_
    refine Wo.p .no rfl (.move rfl) ?_
    refine Wo.p .no rfl (.fa rfl f_97_2) ?_
    refine Wo.p .no rfl (.ixa (j := 1) rfl rfl ae_95 (by decide)) ?_
    refine Wo.p .no rfl (.ixa (j := 3) rfl rfl ae_94 (by decide)) ?_
    refine Wo.ld .no rfl (.s rfl (.tl .hd) a_93 rfl) ?_
    refine Wo.call .no rfl rfl rfl (compiled_ok _ (hl 8 (by decide)).any (hl 8 (by decide)).cells _) ?_
    rintro g6 ml6 r6 hle6 ⟨b6, rfl, rfl, hb6⟩
    replace hp := hp.mono PutR.mono hle6
    replace hl := fun k hk => (hl k hk).mono PieceR.mono hle6
    replace hb3 := hle6 _ _ hb3
    replace hb4 := hle6 _ _ hb4
    replace hb5 := hle6 _ _ hb5
    refine Wo.p .no rfl (.move rfl) ?_
    refine Wo.callV .no rfl rfl rfl (closure_ok _ _ _ _ _ hb6 (hl 8 (by decide))) ?_
    refine Wo.p .no rfl (.bin rfl rfl rfl) ?_
    refine Wo.p .no rfl (.assign rfl) ?_
    refine Wo.nil (bq_n (sq_n ?_))
    refine Wc.region rfl ?_
    refine Wo.p .no rfl (.addL (c := 4) rfl rfl rfl (by decide)) ?_
    refine Wo.p .no rfl (.move rfl) ?_
    refine Wo.nil (sq_n ?_)
    refine Wc.unroll ?_
    refine Wc.seq ?_
    refine Wc.region rfl ?_
    refine Wo.p .no rfl (.bin rfl rfl rfl) ?_
    refine Wo.nil (sq_n ?_)
    refine Wc.seq ?_
    refine Wc.condT rfl (by decide) ?_
    refine Wc.skip (sq_n ?_)
    refine Wc.seq ?_
    refine Wc.block ?_
    refine Wc.seq ?_
    refine Wc.region rfl ?_
    refine Wo.p .no rfl (.move rfl) ?_
    refine Wo.p .no rfl (.ixv (j := 4) rfl rfl ar_38 s_3 (by decide) (by rfl)) ?_
    refine Wo.p .no rfl (.assign rfl) ?_
    refine Wo.p .no rfl (.assign rfl) ?_
    refine Wo.nil (sq_n ?_)
    refine Wc.region rfl ?_
    refine Wo.p .no rfl (.move rfl) ?_
    refine Wo.p .no rfl (.move rfl) ?_
    refine Wo.p .no rfl (.move rfl) ?_
    refine Wo.p .no rfl (.fa rfl f_97_2) ?_
    refine Wo.p .no rfl (.ixa (j := 1) rfl rfl ae_95 (by decide)) ?_
    refine Wo.p .no rfl (.ixa (j := 4) rfl rfl ae_94 (by decide)) ?_
    refine Wo.ld .no rfl (.s rfl (.tl .hd) a_93 rfl) ?_
    refine Wo.call .no rfl rfl rfl (compiled_ok _ (hl 9 (by decide)).any (hl 9 (by decide)).cells _) ?_
    rintro g7 ml7 r7 hle7 ⟨b7, rfl, rfl, hb7⟩
    replace hp := hp.mono PutR.mono hle7
    replace hl := fun k hk => (hl k hk).mono PieceR.mono hle7
    replace hb3 := hle7 _ _ hb3
    replace hb4 := hle7 _ _ hb4
    replace hb5 := hle7 _ _ hb5
    replace hb6 := hle7 _ _ hb6
    refine Wo.p .no rfl (.move rfl) ?_
    refine Wo.callV .no rfl rfl rfl (closure_ok _ _ _ _ _ hb7 (hl 9 (by decide))) ?_
    refine Wo.p .no rfl (.bin rfl rfl rfl) ?_
    refine Wo.p .no rfl (.assign rfl) ?_
    refine Wo.nil (bq_n (sq_n ?_))
    refine Wc.region rfl ?_
    refine Wo.p .no rfl (.addL (c := 5) rfl rfl rfl (by decide)) ?_
    refine Wo.p .no rfl (.move rfl) ?_
    refine Wo.nil (sq_n ?_)
    refine Wc.unroll ?_
    refine Wc.seq ?_
    refine Wc.region rfl ?_
    refine Wo.p .no rfl (.bin rfl rfl rfl) ?_
    refine Wo.nil (sq_n ?_)
    refine Wc.seq ?_
    refine Wc.condF rfl (by decide) ?_
    refine Wc.exit (sq_e (sq_e (bq_x rfl (sq_n ?_))))
    refine Wc.seq ?_
    refine Wc.region rfl ?_
    refine Wo.p .no rfl (.move rfl) ?_
    refine Wo.callV .no rfl rfl rfl (down_ok _ _) ?_
    refine Wo.p .no rfl (.assign rfl) ?_
    refine Wo.nil (sq_n ?_)
    refine Wc.ret ?_
    refine retQ_r ((((hle3.trans hle4).trans hle5).trans hle6).trans hle7) (.tmp rfl .nil) rfl ?_
    rfl
--REG c.tonnage V (tonnage_ok _ _ _ _ _ _ _ _ _ {0} HF)
theorem rtonnage_ok (v : Version) (fo : Int) (x0 x1 x2 x3 x4 : Int) (cs : List V) (g : G) (h : VersionR g cs v) (hf : fo = 0 ∨ fo = 1) : Fv Tryz.prog natS (.f 85 [] []) [.agg cs, .i .i64 fo, .agg [.i .i64 x0, .i .i64 x1, .i .i64 x2, .i .i64 x3, .i .i64 x4]] g (.i .i64 (downI (tonS refV v fo.toNat x0 x1 x2 x3 x4))) := by
  obtain ⟨p, lv, rfl, hp, hl⟩ := h
  refine Fw.fv ?_
  rcases hf with rfl | rfl
  · skip
    refine Fw.enter (N := 27) (al := [(2, _), (1, _), (0, _)]) Tryz.func85 (by kernel_rfl) (by kernel_rfl) rfl rfl rfl rfl ?_
    intro B
    refine Wc.seq ?_
    refine Wc.region rfl ?_
    refine Wo.box .no rfl rfl rfl rfl (fun b1 => ?_)
    refine Wo.box .no rfl rfl rfl rfl (fun b2 => ?_)
    refine Wo.p .no rfl (.assign rfl) ?_
    refine Wo.nil (sq_n ?_)
    refine Wc.seq ?_
    refine Wc.region rfl ?_
    refine Wo.p .no rfl (.assign rfl) ?_
    refine Wo.nil (sq_n ?_)
    refine Wc.seq ?_
    refine Wc.seq ?_
    refine Wc.region rfl ?_
    refine Wo.p .no rfl (.assign rfl) ?_
    refine Wo.nil (sq_n ?_)
    refine Wc.block ?_
    refine Wc.unroll ?_
    refine Wc.seq ?_
    refine Wc.seq ?_
    refine Wc.region rfl ?_
    refine Wo.p .no rfl (.move rfl) ?_
    refine Wo.p .no rfl (.bin rfl rfl rfl) ?_
    refine Wo.nil (sq_n ?_)
    refine Wc.condT rfl (by decide) ?_
    refine Wc.skip (sq_n ?_)
    refine Wc.seq ?_
    refine Wc.block ?_
    refine Wc.draw (tb := [⟨0, 0, false⟩, ⟨0, 0, false⟩, ⟨0, 0, false⟩, ⟨0, 0, false⟩, ⟨10, 0, false⟩, ⟨30, 0, false⟩, ⟨62, 0, false⟩, ⟨0, 0, false⟩, ⟨128, 0, false⟩, ⟨384, 0, false⟩, ⟨1022, 0, true⟩, ⟨2047, 1, true⟩, ⟨4095, 1, true⟩]) rfl (by kernel_rfl) (by kernel_rfl) ?_
    refine Wd.p .no rfl (.move rfl) rfl rfl rfl ?_
    refine Wd.p .no rfl (.move rfl) rfl rfl rfl ?_
    refine Wd.p .no rfl (.move rfl) rfl rfl rfl ?_
    refine Wd.p .no rfl (.fa rfl f_97_2) rfl rfl rfl ?_
    refine Wd.p .no rfl (.ixa (j := 0) rfl rfl ae_95 (by decide)) rfl rfl rfl ?_
    refine Wd.p .no rfl (.ixa (j := 0) rfl rfl ae_94 (by decide)) rfl rfl rfl ?_
    refine Wd.ld (k := 0) .no rfl rfl rfl trivial (.s rfl (.tl .hd) a_93 rfl) ?_
    refine Wd.p .no rfl (.move rfl) rfl rfl rfl ?_
    refine Wd.p .no rfl (.ixa (j := 0) rfl rfl ae_38 (by decide)) rfl rfl rfl ?_
    refine Wd.ld (k := 0) .no rfl rfl rfl trivial (.s rfl .hd a_3 rfl) ?_
    refine Wd.callV .no rfl rfl rfl rfl rfl (rvalue_ok _ _ _ _ (hl 0 (by decide))) ?_
    refine Wd.p .no rfl (.bin rfl rfl rfl) rfl rfl rfl ?_
    refine Wd.p .no rfl (.assign rfl) rfl rfl rfl ?_
    refine Wd.nil (bq_n (sq_n ?_))
    refine Wc.region rfl ?_
    refine Wo.p .no rfl (.move rfl) ?_
    refine Wo.p .no rfl (.addL (c := 1) rfl rfl rfl (by decide)) ?_
    refine Wo.p .no rfl (.assign rfl) ?_
    refine Wo.nil (sq_n ?_)
    refine Wc.unroll ?_
    refine Wc.seq ?_
    refine Wc.seq ?_
    refine Wc.region rfl ?_
    refine Wo.p .no rfl (.move rfl) ?_
    refine Wo.p .no rfl (.bin rfl rfl rfl) ?_
    refine Wo.nil (sq_n ?_)
    refine Wc.condT rfl (by decide) ?_
    refine Wc.skip (sq_n ?_)
    refine Wc.seq ?_
    refine Wc.block ?_
    refine Wc.draw (tb := [⟨0, 0, false⟩, ⟨0, 0, false⟩, ⟨0, 0, false⟩, ⟨0, 0, false⟩, ⟨10, 0, false⟩, ⟨30, 0, false⟩, ⟨62, 0, false⟩, ⟨0, 0, false⟩, ⟨128, 0, false⟩, ⟨384, 0, false⟩, ⟨1022, 0, true⟩, ⟨2047, 1, true⟩, ⟨4095, 1, true⟩]) rfl (by kernel_rfl) (by kernel_rfl) ?_
    refine Wd.p .no rfl (.move rfl) rfl rfl rfl ?_
    refine Wd.p .no rfl (.move rfl) rfl rfl rfl ?_
    refine Wd.p .no rfl (.move rfl) rfl rfl rfl ?_
    refine Wd.p .no rfl (.fa rfl f_97_2) rfl rfl rfl ?_
    refine Wd.p .no rfl (.ixa (j := 0) rfl rfl ae_95 (by decide)) rfl rfl rfl ?_
    refine Wd.p .no rfl (.ixa (j := 1) rfl rfl ae_94 (by decide)) rfl rfl rfl ?_
    refine Wd.ld (k := 0) .no rfl rfl rfl trivial (.s rfl (.tl .hd) a_93 rfl) ?_
    refine Wd.p .no rfl (.move rfl) rfl rfl rfl ?_
    refine Wd.p .no rfl (.ixa (j := 1) rfl rfl ae_38 (by decide)) rfl rfl rfl ?_
    refine Wd.ld (k := 0) .no rfl rfl rfl trivial (.s rfl .hd a_3 rfl) ?_
    refine Wd.callV .no rfl rfl rfl rfl rfl (rvalue_ok _ _ _ _ (hl 1 (by decide))) ?_
    refine Wd.p .no rfl (.bin rfl rfl rfl) rfl rfl rfl ?_
    refine Wd.p .no rfl (.assign rfl) rfl rfl rfl ?_
    refine Wd.nil (bq_n (sq_n ?_))
    refine Wc.region rfl ?_
    refine Wo.p .no rfl (.move rfl) ?_
    refine Wo.p .no rfl (.addL (c := 2) rfl rfl rfl (by decide)) ?_
    refine Wo.p .no rfl (.assign rfl) ?_
    refine Wo.nil (sq_n ?_)
    refine Wc.unroll ?_
    refine Wc.seq ?_
    refine Wc.seq ?_
    refine Wc.region rfl ?_
    refine Wo.p .no rfl (.move rfl) ?_
    refine Wo.p .no rfl (.bin rfl rfl rfl) ?_
    refine Wo.nil (sq_n ?_)
    refine Wc.condT rfl (by decide) ?_
    refine Wc.skip (sq_n ?_)
    refine Wc.seq ?_
    refine Wc.block ?_
    refine Wc.draw (tb := [⟨0, 0, false⟩, ⟨0, 0, false⟩, ⟨0, 0, false⟩, ⟨0, 0, false⟩, ⟨10, 0, false⟩, ⟨30, 0, false⟩, ⟨62, 0, false⟩, ⟨0, 0, false⟩, ⟨128, 0, false⟩, ⟨384, 0, false⟩, ⟨1022, 0, true⟩, ⟨2047, 1, true⟩, ⟨4095, 1, true⟩]) rfl (by kernel_rfl) (by kernel_rfl) ?_
    refine Wd.p .no rfl (.move rfl) rfl rfl rfl ?_
    refine Wd.p .no rfl (.move rfl) rfl rfl rfl ?_
    refine Wd.p .no rfl (.move rfl) rfl rfl rfl ?_
    refine Wd.p .no rfl (.fa rfl f_97_2) rfl rfl rfl ?_
    refine Wd.p .no rfl (.ixa (j := 0) rfl rfl ae_95 (by decide)) rfl rfl rfl ?_
    refine Wd.p .no rfl (.ixa (j := 2) rfl rfl ae_94 (by decide)) rfl rfl rfl ?_
    refine Wd.ld (k := 0) .no rfl rfl rfl trivial (.s rfl (.tl .hd) a_93 rfl) ?_
    refine Wd.p .no rfl (.move rfl) rfl rfl rfl ?_
    refine Wd.p .no rfl (.ixa (j := 2) rfl rfl ae_38 (by decide)) rfl rfl rfl ?_
    refine Wd.ld (k := 0) .no rfl rfl rfl trivial (.s rfl .hd a_3 rfl) ?_
    refine Wd.callV .no rfl rfl rfl rfl rfl (rvalue_ok _ _ _ _ (hl 2 (by decide))) ?_
    refine Wd.p .no rfl (.bin rfl rfl rfl) rfl rfl rfl ?_
    refine Wd.p .no rfl (.assign rfl) rfl rfl rfl ?_
    refine Wd.nil (bq_n (sq_n ?_))
    refine Wc.region rfl ?_
    refine Wo.p .no rfl (.move rfl) ?_
    refine Wo.p .no rfl (.addL (c := 3) rfl rfl rfl (by decide)) ?_
    refine Wo.p .no rfl (.assign rfl) ?_
    refine Wo.nil (sq_n ?_)
    refine Wc.unroll ?_
    refine Wc.seq ?_
    refine Wc.seq ?_
    refine Wc.region rfl ?_
    refine Wo.p .no rfl (.move rfl) ?_
    refine Wo.p .no rfl (.bin rfl rfl rfl) ?_
    refine Wo.nil (sq_n ?_)
    refine Wc.condT rfl (by decide) ?_
    refine Wc.skip (sq_n ?_)
    refine Wc.seq ?_
    refine Wc.block ?_
    refine Wc.draw (tb := [⟨0, 0, false⟩, ⟨0, 0, false⟩, ⟨0, 0, false⟩, ⟨0, 0, false⟩, ⟨10, 0, false⟩, ⟨30, 0, false⟩, ⟨62, 0, false⟩, ⟨0, 0, false⟩, ⟨128, 0, false⟩, ⟨384, 0, false⟩, ⟨1022, 0, true⟩, ⟨2047, 1, true⟩, ⟨4095, 1, true⟩]) rfl (by kernel_rfl) (by kernel_rfl) ?_
    refine Wd.p .no rfl (.move rfl) rfl rfl rfl ?_
    refine Wd.p .no rfl (.move rfl) rfl rfl rfl ?_
    refine Wd.p .no rfl (.move rfl) rfl rfl rfl ?_
    refine Wd.p .no rfl (.fa rfl f_97_2) rfl rfl rfl ?_
    refine Wd.p .no rfl (.ixa (j := 0) rfl rfl ae_95 (by decide)) rfl rfl rfl ?_
    refine Wd.p .no rfl (.ixa (j := 3) rfl rfl ae_94 (by decide)) rfl rfl rfl ?_
    refine Wd.ld (k := 0) .no rfl rfl rfl trivial (.s rfl (.tl .hd) a_93 rfl) ?_
    refine Wd.p .no rfl (.move rfl) rfl rfl rfl ?_
    refine Wd.p .no rfl (.ixa (j := 3) rfl rfl ae_38 (by decide)) rfl rfl rfl ?_
    refine Wd.ld (k := 0) .no rfl rfl rfl trivial (.s rfl .hd a_3 rfl) ?_
    refine Wd.callV .no rfl rfl rfl rfl rfl (rvalue_ok _ _ _ _ (hl 3 (by decide))) ?_
    refine Wd.p .no rfl (.bin rfl rfl rfl) rfl rfl rfl ?_
    refine Wd.p .no rfl (.assign rfl) rfl rfl rfl ?_
    refine Wd.nil (bq_n (sq_n ?_))
    refine Wc.region rfl ?_
    refine Wo.p .no rfl (.move rfl) ?_
    refine Wo.p .no rfl (.addL (c := 4) rfl rfl rfl (by decide)) ?_
    refine Wo.p .no rfl (.assign rfl) ?_
    refine Wo.nil (sq_n ?_)
    refine Wc.unroll ?_
    refine Wc.seq ?_
    refine Wc.seq ?_
    refine Wc.region rfl ?_
    refine Wo.p .no rfl (.move rfl) ?_
    refine Wo.p .no rfl (.bin rfl rfl rfl) ?_
    refine Wo.nil (sq_n ?_)
    refine Wc.condT rfl (by decide) ?_
    refine Wc.skip (sq_n ?_)
    refine Wc.seq ?_
    refine Wc.block ?_
    refine Wc.draw (tb := [⟨0, 0, false⟩, ⟨0, 0, false⟩, ⟨0, 0, false⟩, ⟨0, 0, false⟩, ⟨10, 0, false⟩, ⟨30, 0, false⟩, ⟨62, 0, false⟩, ⟨0, 0, false⟩, ⟨128, 0, false⟩, ⟨384, 0, false⟩, ⟨1022, 0, true⟩, ⟨2047, 1, true⟩, ⟨4095, 1, true⟩]) rfl (by kernel_rfl) (by kernel_rfl) ?_
    refine Wd.p .no rfl (.move rfl) rfl rfl rfl ?_
    refine Wd.p .no rfl (.move rfl) rfl rfl rfl ?_
    refine Wd.p .no rfl (.move rfl) rfl rfl rfl ?_
    refine Wd.p .no rfl (.fa rfl f_97_2) rfl rfl rfl ?_
    refine Wd.p .no rfl (.ixa (j := 0) rfl rfl ae_95 (by decide)) rfl rfl rfl ?_
    refine Wd.p .no rfl (.ixa (j := 4) rfl rfl ae_94 (by decide)) rfl rfl rfl ?_
    refine Wd.ld (k := 0) .no rfl rfl rfl trivial (.s rfl (.tl .hd) a_93 rfl) ?_
    refine Wd.p .no rfl (.move rfl) rfl rfl rfl ?_
    refine Wd.p .no rfl (.ixa (j := 4) rfl rfl ae_38 (by decide)) rfl rfl rfl ?_
    refine Wd.ld (k := 0) .no rfl rfl rfl trivial (.s rfl .hd a_3 rfl) ?_
    refine Wd.callV .no rfl rfl rfl rfl rfl (rvalue_ok _ _ _ _ (hl 4 (by decide))) ?_
    refine Wd.p .no rfl (.bin rfl rfl rfl) rfl rfl rfl ?_
    refine Wd.p .no rfl (.assign rfl) rfl rfl rfl ?_
    refine Wd.nil (bq_n (sq_n ?_))
    refine Wc.region rfl ?_
    refine Wo.p .no rfl (.move rfl) ?_
    refine Wo.p .no rfl (.addL (c := 5) rfl rfl rfl (by decide)) ?_
    refine Wo.p .no rfl (.assign rfl) ?_
    refine Wo.nil (sq_n ?_)
    refine Wc.unroll ?_
    refine Wc.seq ?_
    refine Wc.seq ?_
    refine Wc.region rfl ?_
    refine Wo.p .no rfl (.move rfl) ?_
    refine Wo.p .no rfl (.bin rfl rfl rfl) ?_
    refine Wo.nil (sq_n ?_)
    refine Wc.condF rfl (by decide) ?_
    refine Wc.exit (sq_e (sq_e (bq_x rfl (sq_n ?_))))
    refine Wc.seq ?_
    refine Wc.region rfl ?_
    refine Wo.p .no rfl (.move rfl) ?_
    refine Wo.callV .no rfl rfl rfl (rDown_ok _ _) ?_
    refine Wo.p .no rfl (.assign rfl) ?_
    refine Wo.nil (sq_n ?_)
    refine Wc.ret ?_
    refine retQ_r (Le.refl _) (.tmp rfl .nil) rfl ?_
    rfl
  · skip
    refine Fw.enter (N := 27) (al := [(2, _), (1, _), (0, _)]) Tryz.func85 (by kernel_rfl) (by kernel_rfl) rfl rfl rfl rfl ?_
    intro B
    refine Wc.seq ?_
    refine Wc.region rfl ?_
    refine Wo.box .no rfl rfl rfl rfl (fun b1 => ?_)
    refine Wo.box .no rfl rfl rfl rfl (fun b2 => ?_)
    refine Wo.p .no rfl (.assign rfl) ?_
    refine Wo.nil (sq_n ?_)
    refine Wc.seq ?_
    refine Wc.region rfl ?_
    refine Wo.p .no rfl (.assign rfl) ?_
    refine Wo.nil (sq_n ?_)
    refine Wc.seq ?_
    refine Wc.seq ?_
    refine Wc.region rfl ?_
    refine Wo.p .no rfl (.assign rfl) ?_
    refine Wo.nil (sq_n ?_)
    refine Wc.block ?_
    refine Wc.unroll ?_
    refine Wc.seq ?_
    refine Wc.seq ?_
    refine Wc.region rfl ?_
    refine Wo.p .no rfl (.move rfl) ?_
    refine Wo.p .no rfl (.bin rfl rfl rfl) ?_
    refine Wo.nil (sq_n ?_)
    refine Wc.condT rfl (by decide) ?_
    refine Wc.skip (sq_n ?_)
    refine Wc.seq ?_
    refine Wc.block ?_
    refine Wc.draw (tb := [⟨0, 0, false⟩, ⟨0, 0, false⟩, ⟨0, 0, false⟩, ⟨0, 0, false⟩, ⟨10, 0, false⟩, ⟨30, 0, false⟩, ⟨62, 0, false⟩, ⟨0, 0, false⟩, ⟨128, 0, false⟩, ⟨384, 0, false⟩, ⟨1022, 0, true⟩, ⟨2047, 1, true⟩, ⟨4095, 1, true⟩]) rfl (by kernel_rfl) (by kernel_rfl) ?_
    refine Wd.p .no rfl (.move rfl) rfl rfl rfl ?_
    refine Wd.p .no rfl (.move rfl) rfl rfl rfl ?_
    refine Wd.p .no rfl (.move rfl) rfl rfl rfl ?_
    refine Wd.p .no rfl (.fa rfl f_97_2) rfl rfl rfl ?_
    refine Wd.p .no rfl (.ixa (j := 1) rfl rfl ae_95 (by decide)) rfl rfl rfl ?_
    refine Wd.p .no rfl (.ixa (j := 0) rfl rfl ae_94 (by decide)) rfl rfl rfl ?_
    refine Wd.ld (k := 0) .no rfl rfl rfl trivial (.s rfl (.tl .hd) a_93 rfl) ?_
    refine Wd.p .no rfl (.move rfl) rfl rfl rfl ?_
    refine Wd.p .no rfl (.ixa (j := 0) rfl rfl ae_38 (by decide)) rfl rfl rfl ?_
    refine Wd.ld (k := 0) .no rfl rfl rfl trivial (.s rfl .hd a_3 rfl) ?_
    refine Wd.callV .no rfl rfl rfl rfl rfl (rvalue_ok _ _ _ _ (hl 5 (by decide))) ?_
    refine Wd.p .no rfl (.bin rfl rfl rfl) rfl rfl rfl ?_
    refine Wd.p .no rfl (.assign rfl) rfl rfl rfl ?_
    refine Wd.nil (bq_n (sq_n ?_))
    refine Wc.region rfl ?_
    refine Wo.p .no rfl (.move rfl) ?_
    refine Wo.p .no rfl (.addL (c := 1) rfl rfl rfl (by decide)) ?_
    refine Wo.p .no rfl (.assign rfl) ?_
    refine Wo.nil (sq_n ?_)
    refine Wc.unroll ?_
    refine Wc.seq ?_
    refine Wc.seq ?_
    refine Wc.region rfl ?_
    refine Wo.p .no rfl (.move rfl) ?_
    refine Wo.p .no rfl (.bin rfl rfl rfl) ?_
    refine Wo.nil (sq_n ?_)
    refine Wc.condT rfl (by decide) ?_
    refine Wc.skip (sq_n ?_)
    refine Wc.seq ?_
    refine Wc.block ?_
    refine Wc.draw (tb := [⟨0, 0, false⟩, ⟨0, 0, false⟩, ⟨0, 0, false⟩, ⟨0, 0, false⟩, ⟨10, 0, false⟩, ⟨30, 0, false⟩, ⟨62, 0, false⟩, ⟨0, 0, false⟩, ⟨128, 0, false⟩, ⟨384, 0, false⟩, ⟨1022, 0, true⟩, ⟨2047, 1, true⟩, ⟨4095, 1, true⟩]) rfl (by kernel_rfl) (by kernel_rfl) ?_
    refine Wd.p .no rfl (.move rfl) rfl rfl rfl ?_
    refine Wd.p .no rfl (.move rfl) rfl rfl rfl ?_
    refine Wd.p .no rfl (.move rfl) rfl rfl rfl ?_
    refine Wd.p .no rfl (.fa rfl f_97_2) rfl rfl rfl ?_
    refine Wd.p .no rfl (.ixa (j := 1) rfl rfl ae_95 (by decide)) rfl rfl rfl ?_
    refine Wd.p .no rfl (.ixa (j := 1) rfl rfl ae_94 (by decide)) rfl rfl rfl ?_
    refine Wd.ld (k := 0) .no rfl rfl rfl trivial (.s rfl (.tl .hd) a_93 rfl) ?_
    refine Wd.p .no rfl (.move rfl) rfl rfl rfl ?_
    refine Wd.p .no rfl (.ixa (j := 1) rfl rfl ae_38 (by decide)) rfl rfl rfl ?_
    refine Wd.ld (k := 0) .no rfl rfl rfl trivial (.s rfl .hd a_3 rfl) ?_
    refine Wd.callV .no rfl rfl rfl rfl rfl (rvalue_ok _ _ _ _ (hl 6 (by decide))) ?_
    refine Wd.p .no rfl (.bin rfl rfl rfl) rfl rfl rfl ?_
    refine Wd.p .no rfl (.assign rfl) rfl rfl rfl ?_
    refine Wd.nil (bq_n (sq_n ?_))
    refine Wc.region rfl ?_
    refine Wo.p .no rfl (.move rfl) ?_
    refine Wo.p .no rfl (.addL (c := 2) rfl rfl rfl (by decide)) ?_
    refine Wo.p .no rfl (.assign rfl) ?_
    refine Wo.nil (sq_n ?_)
    refine Wc.unroll ?_
    refine Wc.seq ?_
    refine Wc.seq ?_
    refine Wc.region rfl ?_
    refine Wo.p .no rfl (.move rfl) ?_
    refine Wo.p .no rfl (.bin rfl rfl rfl) ?_
    refine Wo.nil (sq_n ?_)
    refine Wc.condT rfl (by decide) ?_
    refine Wc.skip (sq_n ?_)
    refine Wc.seq ?_
    refine Wc.block ?_
    refine Wc.draw (tb := [⟨0, 0, false⟩, ⟨0, 0, false⟩, ⟨0, 0, false⟩, ⟨0, 0, false⟩, ⟨10, 0, false⟩, ⟨30, 0, false⟩, ⟨62, 0, false⟩, ⟨0, 0, false⟩, ⟨128, 0, false⟩, ⟨384, 0, false⟩, ⟨1022, 0, true⟩, ⟨2047, 1, true⟩, ⟨4095, 1, true⟩]) rfl (by kernel_rfl) (by kernel_rfl) ?_
    refine Wd.p .no rfl (.move rfl) rfl rfl rfl ?_
    refine Wd.p .no rfl (.move rfl) rfl rfl rfl ?_
    refine Wd.p .no rfl (.move rfl) rfl rfl rfl ?_
    refine Wd.p .no rfl (.fa rfl f_97_2) rfl rfl rfl ?_
    refine Wd.p .no rfl (.ixa (j := 1) rfl rfl ae_95 (by decide)) rfl rfl rfl ?_
    refine Wd.p .no rfl (.ixa (j := 2) rfl rfl ae_94 (by decide)) rfl rfl rfl ?_
    refine Wd.ld (k := 0) .no rfl rfl rfl trivial (.s rfl (.tl .hd) a_93 rfl) ?_
    refine Wd.p .no rfl (.move rfl) rfl rfl rfl ?_
    refine Wd.p .no rfl (.ixa (j := 2) rfl rfl ae_38 (by decide)) rfl rfl rfl ?_
    refine Wd.ld (k := 0) .no rfl rfl rfl trivial (.s rfl .hd a_3 rfl) ?_
    refine Wd.callV .no rfl rfl rfl rfl rfl (rvalue_ok _ _ _ _ (hl 7 (by decide))) ?_
    refine Wd.p .no rfl (.bin rfl rfl rfl) rfl rfl rfl ?_
    refine Wd.p .no rfl (.assign rfl) rfl rfl rfl ?_
    refine Wd.nil (bq_n (sq_n ?_))
    refine Wc.region rfl ?_
    refine Wo.p .no rfl (.move rfl) ?_
    refine Wo.p .no rfl (.addL (c := 3) rfl rfl rfl (by decide)) ?_
    refine Wo.p .no rfl (.assign rfl) ?_
    refine Wo.nil (sq_n ?_)
    refine Wc.unroll ?_
    refine Wc.seq ?_
    refine Wc.seq ?_
    refine Wc.region rfl ?_
    refine Wo.p .no rfl (.move rfl) ?_
    refine Wo.p .no rfl (.bin rfl rfl rfl) ?_
    refine Wo.nil (sq_n ?_)
    refine Wc.condT rfl (by decide) ?_
    refine Wc.skip (sq_n ?_)
    refine Wc.seq ?_
    refine Wc.block ?_
    refine Wc.draw (tb := [⟨0, 0, false⟩, ⟨0, 0, false⟩, ⟨0, 0, false⟩, ⟨0, 0, false⟩, ⟨10, 0, false⟩, ⟨30, 0, false⟩, ⟨62, 0, false⟩, ⟨0, 0, false⟩, ⟨128, 0, false⟩, ⟨384, 0, false⟩, ⟨1022, 0, true⟩, ⟨2047, 1, true⟩, ⟨4095, 1, true⟩]) rfl (by kernel_rfl) (by kernel_rfl) ?_
    refine Wd.p .no rfl (.move rfl) rfl rfl rfl ?_
    refine Wd.p .no rfl (.move rfl) rfl rfl rfl ?_
    refine Wd.p .no rfl (.move rfl) rfl rfl rfl ?_
    refine Wd.p .no rfl (.fa rfl f_97_2) rfl rfl rfl ?_
    refine Wd.p .no rfl (.ixa (j := 1) rfl rfl ae_95 (by decide)) rfl rfl rfl ?_
    refine Wd.p .no rfl (.ixa (j := 3) rfl rfl ae_94 (by decide)) rfl rfl rfl ?_
    refine Wd.ld (k := 0) .no rfl rfl rfl trivial (.s rfl (.tl .hd) a_93 rfl) ?_
    refine Wd.p .no rfl (.move rfl) rfl rfl rfl ?_
    refine Wd.p .no rfl (.ixa (j := 3) rfl rfl ae_38 (by decide)) rfl rfl rfl ?_
    refine Wd.ld (k := 0) .no rfl rfl rfl trivial (.s rfl .hd a_3 rfl) ?_
    refine Wd.callV .no rfl rfl rfl rfl rfl (rvalue_ok _ _ _ _ (hl 8 (by decide))) ?_
    refine Wd.p .no rfl (.bin rfl rfl rfl) rfl rfl rfl ?_
    refine Wd.p .no rfl (.assign rfl) rfl rfl rfl ?_
    refine Wd.nil (bq_n (sq_n ?_))
    refine Wc.region rfl ?_
    refine Wo.p .no rfl (.move rfl) ?_
    refine Wo.p .no rfl (.addL (c := 4) rfl rfl rfl (by decide)) ?_
    refine Wo.p .no rfl (.assign rfl) ?_
    refine Wo.nil (sq_n ?_)
    refine Wc.unroll ?_
    refine Wc.seq ?_
    refine Wc.seq ?_
    refine Wc.region rfl ?_
    refine Wo.p .no rfl (.move rfl) ?_
    refine Wo.p .no rfl (.bin rfl rfl rfl) ?_
    refine Wo.nil (sq_n ?_)
    refine Wc.condT rfl (by decide) ?_
    refine Wc.skip (sq_n ?_)
    refine Wc.seq ?_
    refine Wc.block ?_
    refine Wc.draw (tb := [⟨0, 0, false⟩, ⟨0, 0, false⟩, ⟨0, 0, false⟩, ⟨0, 0, false⟩, ⟨10, 0, false⟩, ⟨30, 0, false⟩, ⟨62, 0, false⟩, ⟨0, 0, false⟩, ⟨128, 0, false⟩, ⟨384, 0, false⟩, ⟨1022, 0, true⟩, ⟨2047, 1, true⟩, ⟨4095, 1, true⟩]) rfl (by kernel_rfl) (by kernel_rfl) ?_
    refine Wd.p .no rfl (.move rfl) rfl rfl rfl ?_
    refine Wd.p .no rfl (.move rfl) rfl rfl rfl ?_
    refine Wd.p .no rfl (.move rfl) rfl rfl rfl ?_
    refine Wd.p .no rfl (.fa rfl f_97_2) rfl rfl rfl ?_
    refine Wd.p .no rfl (.ixa (j := 1) rfl rfl ae_95 (by decide)) rfl rfl rfl ?_
    refine Wd.p .no rfl (.ixa (j := 4) rfl rfl ae_94 (by decide)) rfl rfl rfl ?_
    refine Wd.ld (k := 0) .no rfl rfl rfl trivial (.s rfl (.tl .hd) a_93 rfl) ?_
    refine Wd.p .no rfl (.move rfl) rfl rfl rfl ?_
    refine Wd.p .no rfl (.ixa (j := 4) rfl rfl ae_38 (by decide)) rfl rfl rfl ?_
    refine Wd.ld (k := 0) .no rfl rfl rfl trivial (.s rfl .hd a_3 rfl) ?_
    refine Wd.callV .no rfl rfl rfl rfl rfl (rvalue_ok _ _ _ _ (hl 9 (by decide))) ?_
    refine Wd.p .no rfl (.bin rfl rfl rfl) rfl rfl rfl ?_
    refine Wd.p .no rfl (.assign rfl) rfl rfl rfl ?_
    refine Wd.nil (bq_n (sq_n ?_))
    refine Wc.region rfl ?_
    refine Wo.p .no rfl (.move rfl) ?_
    refine Wo.p .no rfl (.addL (c := 5) rfl rfl rfl (by decide)) ?_
    refine Wo.p .no rfl (.assign rfl) ?_
    refine Wo.nil (sq_n ?_)
    refine Wc.unroll ?_
    refine Wc.seq ?_
    refine Wc.seq ?_
    refine Wc.region rfl ?_
    refine Wo.p .no rfl (.move rfl) ?_
    refine Wo.p .no rfl (.bin rfl rfl rfl) ?_
    refine Wo.nil (sq_n ?_)
    refine Wc.condF rfl (by decide) ?_
    refine Wc.exit (sq_e (sq_e (bq_x rfl (sq_n ?_))))
    refine Wc.seq ?_
    refine Wc.region rfl ?_
    refine Wo.p .no rfl (.move rfl) ?_
    refine Wo.callV .no rfl rfl rfl (rDown_ok _ _) ?_
    refine Wo.p .no rfl (.assign rfl) ?_
    refine Wo.nil (sq_n ?_)
    refine Wc.ret ?_
    refine retQ_r (Le.refl _) (.tmp rfl .nil) rfl ?_
    rfl
--REG r4.tonnage V (rtonnage_ok _ _ _ _ _ _ _ _ _ {0} HF)
end Go.Proofs.YtjflgemfeofciaaGreatDoor
