import Derived.Test.YtjflgemfeofciaaGreatDoorEn4
/- Layer 4: CheckEnds. -/
namespace Go.Proofs.YtjflgemfeofciaaGreatDoor
open Go Go.Ev
set_option linter.unusedVariables false
set_option linter.unusedSimpArgs false
set_option maxRecDepth 10000
def judT (sel : Int × Int → Int) (ver : Version) (fo : Int) (lo hi : Nat → Int) : Int := downI (tonS closV ver fo.toNat (sel (judL ver fo.toNat lo hi 1)) (sel (judL ver fo.toNat lo hi 2)) (sel (judL ver fo.toNat lo hi 3)) (sel (judL ver fo.toNat lo hi 4)) (sel (judL ver fo.toNat lo hi 5)))
def goodE (ver : Version) (fo : Int) (lo hi : Nat → Int) (want t x1 x2 x3 x4 x5 : Int) : Bool := within x1 (lo 1) (hi 1) && (within x2 (lo 2) (hi 2) && (within x3 (lo 3) (hi 3) && (within x4 (lo 4) (hi 4) && (within x5 (lo 5) (hi 5) && (decide (t = want) && decide (downI (tonS closV ver fo.toNat x1 x2 x3 x4 x5) = want))))))
def chkV (ver : Version) (fo : Int) (lo hi : Nat → Int) (t x1 x2 x3 x4 x5 u y1 y2 y3 y4 y5 : Int) : Int := if (goodE ver fo lo hi (judT Prod.fst ver fo lo hi) t x1 x2 x3 x4 x5 && goodE ver fo lo hi (judT Prod.snd ver fo lo hi) u y1 y2 y3 y4 y5) = true then 0 else 47
def chkE (c : Code) (day f : Int) (l : List Room) (t x1 x2 x3 x4 x5 u y1 y2 y3 y4 y5 : Int) : Int := if endE c day f l = 0 then chkV (verF c day) f (fun i => litI (verF c day) Room.lo i l) (fun i => litI (verF c day) Room.hi i l) t x1 x2 x3 x4 x5 u y1 y2 y3 y4 y5 else endE c day f l
set_option maxHeartbeats 8000000 in
theorem CheckEnds_ok (c : Code) (day f : Int) (l : List Room) (t x1 x2 x3 x4 x5 u y1 y2 y3 y4 y5 : Int) (w : V) (cs : List V) (g : G) (h : CodeR g cs c) (hr : RS RoomR 6 g w l) : Fv Tryz.prog natS (.f 26 [] []) [.agg cs, .i .i64 day, .i .i64 f, w, .agg [.i .i64 t, .i .i64 x1, .i .i64 x2, .i .i64 x3, .i .i64 x4, .i .i64 x5, .i .i64 u, .i .i64 y1, .i .i64 y2, .i .i64 y3, .i .i64 y4, .i .i64 y5]] g (.i .i64 (chkE c day f l t x1 x2 x3 x4 x5 u y1 y2 y3 y4 y5)) := by
  obtain ⟨v, rfl, h⟩ := h
  refine Fw.fv ?_
  refine Fw.enter (N := 104) (al := [(4, _), (3, _), (2, _), (1, _), (0, _)]) Tryz.func26 (by kernel_rfl) (by kernel_rfl) rfl rfl rfl rfl ?_
  intro B
  refine .seq <| .region rfl <| .box .no rfl rfl rfl rfl fun b1 => .box .no rfl rfl rfl rfl fun b2 => .z rfl rfl <| .nil <| sq_n <| .seq <| .region rfl <| .w (.a (vs := [_, _]) rfl (.tl .hd) a_24 s_24 rfl rfl) <| .call .no rfl rfl rfl (of_ok _ _ _ ⟨_, rfl, h⟩) ?_
  rintro g3 ml3 r3 hle3 ⟨b3, cs3, rfl, rfl, rfl, vv3, p3, lv3, rfl, hv3, hp3, hl3⟩
  replace h := h.mono VersionR.mono hle3
  replace hr := hr.mono RoomR.mono hle3
  refine .m rfl rfl <| .m rfl rfl <| .callT .no rfl rfl rfl .hd (on_ok _ _ _ _ _ _ _ _ _ ⟨_, _, _, rfl, hv3, hp3, hl3⟩) ?_
  rintro g4 ml4 r4 hle4 ⟨cs4, rfl, rfl, rfl, vv4, p4, lv4, rfl, hv4, hp4, hl4⟩
  replace h := h.mono VersionR.mono hle4
  replace hr := hr.mono RoomR.mono hle4
  replace hv3 := hv3.mono VersionR.mono hle4
  replace hp3 := hp3.mono PutR.mono hle4
  replace hl3 := fun k hk => (hl3 k hk).mono PieceR.mono hle4
  refine .m rfl rfl <| .callR .no rfl rfl rfl .hd (with_ok _ _ _ _ _ _ _ _ _ _ _ _ _ _ _ _ _ _ _ _ hr) <| .z rfl rfl <| .nil <| sq_n <| .seq <| .seq <| .region rfl <| .m rfl rfl <| .q (.nil rfl) <| .q (.fa rfl f_132_3) <| .w (.s rfl .hd a_30 rfl) <| .b rfl rfl rfl rfl <| .nil <| sq_n <| .cond rfl (fun h5 => ?_) (fun h5 => ?_)
  ·have kh5 := h5; (try simp only [bk] at kh5)
   have hn : ¬ endE c day f l = 0 := kh5
   refine .seq <| .region rfl <| .m rfl rfl <| .q (.nil rfl) <| .q (.fa rfl f_132_3) <| .w (.s rfl .hd a_30 rfl) <| .z rfl rfl <| .nil <| sq_n <| .ret <| sq_r <| retQ_r (hle3.trans hle4) (.tmp rfl .nil) rfl ?_
   first
    | (unfold chkE; rw [if_neg hn]; rfl)
    | (refine congrArg (V.i .i64) ?_
       unfold chkE
       rw [if_pos h0, ← hz.ver]
       unfold chkV goodE judT
       first
        | (rw [if_pos (by simp only [Bool.and_eq_true, decide_eq_true_eq]; exact ⟨⟨‹_›, ‹_›, ‹_›, ‹_›, ‹_›, ‹_›, ‹_›⟩, ‹_›, ‹_›, ‹_›, ‹_›, ‹_›, ‹_›, ‹_›⟩)])
        | (refine (if_neg fun hh => ?_).symm
           simp only [Bool.and_eq_true, decide_eq_true_eq] at hh
           obtain ⟨⟨a1, a2, a3, a4, a5, a6, a7⟩, q1, q2, q3, q4, q5, q6, q7⟩ := hh
           first
            | exact absurd (show true = false from a1.symm.trans ‹_›) (by decide)
            | exact absurd (show true = false from a2.symm.trans ‹_›) (by decide)
            | exact absurd (show true = false from a3.symm.trans ‹_›) (by decide)
            | exact absurd (show true = false from a4.symm.trans ‹_›) (by decide)
            | exact absurd (show true = false from a5.symm.trans ‹_›) (by decide)
            | exact absurd (show true = false from q1.symm.trans ‹_›) (by decide)
            | exact absurd (show true = false from q2.symm.trans ‹_›) (by decide)
            | exact absurd (show true = false from q3.symm.trans ‹_›) (by decide)
            | exact absurd (show true = false from q4.symm.trans ‹_›) (by decide)
            | exact absurd (show true = false from q5.symm.trans ‹_›) (by decide)
            | exact absurd a6 ‹_›
            | exact absurd a7 ‹_›
            | exact absurd q6 ‹_›
            | exact absurd q7 ‹_›))
  ·have kh5 := h5; (try simp only [bk] at kh5)
   have h0 : endE c day f l = 0 := kh5
   have hz := endE_zero h0
   have hz1 : (onV c.err c day f .none).puts.all Put.ok = true := by rw [hz.ver]; exact hz.puts
   have hz2 : ∀ k, k < 10 → lineB ((onV c.err c day f .none).ln k) = true := by rw [hz.ver]; exact hz.lines
   refine .freeze .hd ?_
   intro g6 hle7 hz8
   replace h := h.mono VersionR.mono hle7
   replace hr := hr.mono RoomR.mono hle7
   replace hv3 := hv3.mono VersionR.mono hle7
   replace hp3 := hp3.mono PutR.mono hle7
   replace hl3 := fun k hk => (hl3 k hk).mono PieceR.mono hle7
   replace hv4 := hv4.mono VersionR.mono hle7
   replace hp4 := hp4.mono PutR.mono hle7
   replace hl4 := fun k hk => (hl4 k hk).mono PieceR.mono hle7
   refine .skip <| sq_n <| .seq <| .region rfl <| .m rfl rfl <| .m rfl rfl <| .call .no rfl rfl rfl (gplan_ok _ _ _ _ _ _ _ _ _ hz8 ⟨_, _, _, rfl, hv4, hp4, hl4⟩ hr hz.len hz1) ?_
   rintro g9 ml9 r9 hle9 ⟨cs9, rfl, rfl, rv9, rfl, hrv9⟩
   replace h := h.mono VersionR.mono hle9
   replace hr := hr.mono RoomR.mono hle9
   replace hv3 := hv3.mono VersionR.mono hle9
   replace hp3 := hp3.mono PutR.mono hle9
   replace hl3 := fun k hk => (hl3 k hk).mono PieceR.mono hle9
   replace hv4 := hv4.mono VersionR.mono hle9
   replace hp4 := hp4.mono PutR.mono hle9
   replace hl4 := fun k hk => (hl4 k hk).mono PieceR.mono hle9
   replace hz8 := hle9 _ _ hz8
   refine .alloc .no rfl z_85 fun b10 => .st (cs' := [_, _, _, _, _, _, _, _, _, _, _, _, _, _, _, _, _, _, _, _, _, _]) .no rfl rfl rfl rfl s_85 rfl rfl .hd rfl (allOne_cons rfl (allOne_cons rfl (allOne_cons (hrv9 1 (by decide)).one (allOne_cons rfl (allOne_cons rfl (allOne_cons rfl (allOne_cons (hrv9 2 (by decide)).one (allOne_cons rfl (allOne_cons rfl (allOne_cons rfl (allOne_cons (hrv9 3 (by decide)).one (allOne_cons rfl (allOne_cons rfl (allOne_cons rfl (allOne_cons (hrv9 4 (by decide)).one (allOne_cons rfl (allOne_cons rfl (allOne_cons rfl (allOne_cons (hrv9 5 (by decide)).one (allOne_cons rfl (allOne_cons rfl (allOne_cons (hrv9 0 (by decide)).one rfl)))))))))))))))))))))) <| .nil <| sq_n <| .seq <| .draw (tb := [r0 0 0, r0 1 0, r0 3 0, r0 7 0, r0 0 0, r0 0 0, r1 63 0, r1 127 1, r1 255 1, r1 255 1, r0 0 0, r0 0 0, r1 3583 1, r1 8191 2]) rfl (by kernel_rfl) (by kernel_rfl) ?_
   refine .m rfl rfl <| .q (.nil rfl) <| .q (.fa rfl f_132_1) <| .y rfl rfl rfl (.a (vs := [_, _, _, _, _, _, _, _, _, _, _, _]) rfl (.g hz8) a_97 s_97 rfl rfl) <| .m rfl rfl <| .y rfl rfl rfl (.a (vs := [_, _, _, _, _, _, _, _, _, _, _, _, _, _, _, _, _, _, _, _, _, _]) rfl .hd a_85 s_85 rfl rfl) <| .callV .no rfl rfl rfl rfl rfl (judged_ok _ _ _ _ _ _ _ _ _ ⟨_, _, rfl, hp4, hl4⟩ (PlanR.gen (v := onV c.err c day f .none) (l := l) ⟨_, rfl, hrv9⟩) hz.f01 hz2) <| .m rfl rfl <| .q (.ext rfl rfl) <| .q (.ext rfl rfl) <| .f .no rfl (.alloc z_40) fun b11 => .f .no rfl (.alloc z_40) fun b12 => .st (cs' := [_, _, _, _, _, _]) .no (pinF_t rfl (pinF_t rfl pinF_n)) (restA_t rfl (restA_t rfl restA_n)) rfl rfl rfl rfl s_40 rfl rfl (.tl .hd) rfl rfl (.all (allA_c rfl (allA_c rfl rfl))) <| .st (cs' := [_, _, _, _, _, _]) .no rfl rfl rfl rfl rfl rfl s_40 rfl rfl .hd rfl rfl (.all (allA_c rfl (allA_c rfl rfl))) <| .nil <| sq_n <| .seq <| .seq <| .region rfl <| .w (.a (vs := [_, _, _, _, _, _]) rfl (.tl .hd) a_40 s_40 rfl rfl) <| .w (.a (vs := [_, _, _, _, _, _]) rfl .hd a_40 s_40 rfl rfl) <| .bs .no rfl (qs := [(0, _), (1, _)]) (c := [_, _, _, _, _, _, _, _, _, _, _, _]) rfl sl_139 el_40 (by decide) rfl fun b13 => .q (.len rfl rfl rfl (lenV_sl e_139 .sl)) <| .m rfl rfl <| .nil <| sq_n <| .block <| .unroll <| .seq <| .region rfl <| .b rfl rfl rfl rfl <| .nil <| sq_n ?_
   refine .seq <| .condT rfl (by decide) <| .skip <| sq_n <| .seq <| .block <| .seq <| .region rfl <| .m rfl rfl <| .q (.ixn (j := 0) rfl .sl rfl e_139 (by decide)) <| .w (.a (vs := [_, _, _, _, _, _]) rfl .hd a_40 s_40 rfl rfl) <| .alloc .no rfl z_40 fun b14 => .z rfl rfl <| .st (cs' := [_, _, _, _, _, _]) .no rfl rfl rfl rfl s_40 rfl rfl .hd rfl rfl <| .nil <| sq_n <| .seq <| .seq <| .region rfl <| .m rfl rfl <| .q (.ixa (j := 0) rfl rfl ae_41 (by decide)) <| .q (.fa rfl f_40_1) <| .w (.a (vs := [_, _, _, _, _]) rfl (.tl (.tl (.tl (.tl (.tl .hd))))) a_38 s_38 rfl rfl) <| .m rfl rfl <| .nil <| sq_n <| .block <| .unroll <| .seq <| .region rfl <| .b rfl rfl rfl rfl <| .nil <| sq_n <| .seq ?_
   refine .condT rfl (by decide) <| .skip <| sq_n <| .seq <| .block <| .seq <| .region rfl <| .m rfl rfl <| .q (.ixv (j := 0) rfl rfl ar_38 s_3 (by decide) (by rfl)) ?_
   refine .z rfl rfl <| .z rfl rfl <| .nil <| sq_n <| .seq <| .draw (tb := [r0 0 0, r0 0 0, r0 0 0, r0 6 0, r0 14 0, r0 30 0, r0 62 0, r0 0 0, r0 0 0, r0 384 0, r0 896 0, r0 1920 0, r0 3968 0, r1 8191 0, r1 16383 1]) rfl (by kernel_rfl) (by kernel_rfl) ?_
   refine .m rfl rfl <| .m rfl rfl <| .q (.fa rfl f_85_1) <| .q (.ixa (j := 0) rfl rfl ae_83 (by decide)) <| .q (.fa rfl f_82_2) <| .q (.fa rfl f_27_0) <| .y rfl rfl rfl (.s rfl (.tl (.tl (.tl (.tl .hd)))) a_3 rfl) <| .m rfl rfl <| .q (.fa rfl f_85_1) <| .q (.ixa (j := 0) rfl rfl ae_83 (by decide)) <| .q (.fa rfl f_82_2) <| .q (.fa rfl f_27_1) <| .y rfl rfl rfl (.s rfl (.tl (.tl (.tl (.tl .hd)))) a_3 rfl) <| .callV .no rfl rfl rfl rfl rfl (isWithin_ok _ _ _ _) <| .q (.not rfl) <| .nil <| sq_n <| .cond rfl (fun h15 => ?_) (fun h15 => ?_)
   ·have kh15 := h15; (try simp only [bk] at kh15)
    refine .seq <| .region rfl <| .z rfl rfl <| .nil <| sq_n <| .ret <| bq_r <| sq_r <| sq_r <| bq_r <| sq_r <| bq_r <| sq_r <| sq_r <| bq_r <| sq_r <| retQ_r (((hle3.trans hle4).trans hle7).trans hle9) (.tmp rfl .nil) rfl ?_
    first
     | (unfold chkE; rw [if_neg hn]; rfl)
     | (refine congrArg (V.i .i64) ?_
        unfold chkE
        rw [if_pos h0, ← hz.ver]
        unfold chkV goodE judT
        first
         | (rw [if_pos (by simp only [Bool.and_eq_true, decide_eq_true_eq]; exact ⟨⟨‹_›, ‹_›, ‹_›, ‹_›, ‹_›, ‹_›, ‹_›⟩, ‹_›, ‹_›, ‹_›, ‹_›, ‹_›, ‹_›, ‹_›⟩)])
         | (refine (if_neg fun hh => ?_).symm
            simp only [Bool.and_eq_true, decide_eq_true_eq] at hh
            obtain ⟨⟨a1, a2, a3, a4, a5, a6, a7⟩, q1, q2, q3, q4, q5, q6, q7⟩ := hh
            first
             | exact absurd (show true = false from a1.symm.trans ‹_›) (by decide)
             | exact absurd (show true = false from a2.symm.trans ‹_›) (by decide)
             | exact absurd (show true = false from a3.symm.trans ‹_›) (by decide)
             | exact absurd (show true = false from a4.symm.trans ‹_›) (by decide)
             | exact absurd (show true = false from a5.symm.trans ‹_›) (by decide)
             | exact absurd (show true = false from q1.symm.trans ‹_›) (by decide)
             | exact absurd (show true = false from q2.symm.trans ‹_›) (by decide)
             | exact absurd (show true = false from q3.symm.trans ‹_›) (by decide)
             | exact absurd (show true = false from q4.symm.trans ‹_›) (by decide)
             | exact absurd (show true = false from q5.symm.trans ‹_›) (by decide)
             | exact absurd a6 ‹_›
             | exact absurd a7 ‹_›
             | exact absurd q6 ‹_›
             | exact absurd q7 ‹_›))
   ·have kh15 := h15; (try simp only [bk] at kh15)
    refine .skip <| bq_n <| sq_n <| .region rfl <| .q (.addL (c := 1) rfl rfl rfl (by decide)) <| .m rfl rfl <| .nil <| sq_n <| .unroll <| .seq <| .region rfl <| .b rfl rfl rfl rfl <| .nil <| sq_n <| .seq <| .condT rfl (by decide) <| .skip <| sq_n <| .seq <| .block <| .seq <| .region rfl <| .m rfl rfl <| .q (.ixv (j := 1) rfl rfl ar_38 s_3 (by decide) (by rfl)) ?_
    refine .z rfl rfl <| .z rfl rfl <| .nil <| sq_n <| .seq <| .draw (tb := [r0 0 0, r0 0 0, r0 0 0, r0 6 0, r0 14 0, r0 30 0, r0 62 0, r0 0 0, r0 0 0, r0 384 0, r0 896 0, r0 1920 0, r0 3968 0, r1 8191 0, r1 16383 1]) rfl (by kernel_rfl) (by kernel_rfl) ?_
    refine .m rfl rfl <| .m rfl rfl <| .q (.fa rfl f_85_1) <| .q (.ixa (j := 1) rfl rfl ae_83 (by decide)) <| .q (.fa rfl f_82_2) <| .q (.fa rfl f_27_0) <| .y rfl rfl rfl (.s rfl (.tl (.tl (.tl (.tl .hd)))) a_3 rfl) <| .m rfl rfl <| .q (.fa rfl f_85_1) <| .q (.ixa (j := 1) rfl rfl ae_83 (by decide)) <| .q (.fa rfl f_82_2) <| .q (.fa rfl f_27_1) <| .y rfl rfl rfl (.s rfl (.tl (.tl (.tl (.tl .hd)))) a_3 rfl) <| .callV .no rfl rfl rfl rfl rfl (isWithin_ok _ _ _ _) <| .q (.not rfl) <| .nil <| sq_n <| .cond rfl (fun h16 => ?_) (fun h16 => ?_)
    ·have kh16 := h16; (try simp only [bk] at kh16)
     refine .seq <| .region rfl <| .z rfl rfl <| .nil <| sq_n <| .ret <| bq_r <| sq_r <| sq_r <| bq_r <| sq_r <| bq_r <| sq_r <| sq_r <| bq_r <| sq_r <| retQ_r (((hle3.trans hle4).trans hle7).trans hle9) (.tmp rfl .nil) rfl ?_
     first
      | (unfold chkE; rw [if_neg hn]; rfl)
      | (refine congrArg (V.i .i64) ?_
         unfold chkE
         rw [if_pos h0, ← hz.ver]
         unfold chkV goodE judT
         first
          | (rw [if_pos (by simp only [Bool.and_eq_true, decide_eq_true_eq]; exact ⟨⟨‹_›, ‹_›, ‹_›, ‹_›, ‹_›, ‹_›, ‹_›⟩, ‹_›, ‹_›, ‹_›, ‹_›, ‹_›, ‹_›, ‹_›⟩)])
          | (refine (if_neg fun hh => ?_).symm
             simp only [Bool.and_eq_true, decide_eq_true_eq] at hh
             obtain ⟨⟨a1, a2, a3, a4, a5, a6, a7⟩, q1, q2, q3, q4, q5, q6, q7⟩ := hh
             first
              | exact absurd (show true = false from a1.symm.trans ‹_›) (by decide)
              | exact absurd (show true = false from a2.symm.trans ‹_›) (by decide)
              | exact absurd (show true = false from a3.symm.trans ‹_›) (by decide)
              | exact absurd (show true = false from a4.symm.trans ‹_›) (by decide)
              | exact absurd (show true = false from a5.symm.trans ‹_›) (by decide)
              | exact absurd (show true = false from q1.symm.trans ‹_›) (by decide)
              | exact absurd (show true = false from q2.symm.trans ‹_›) (by decide)
              | exact absurd (show true = false from q3.symm.trans ‹_›) (by decide)
              | exact absurd (show true = false from q4.symm.trans ‹_›) (by decide)
              | exact absurd (show true = false from q5.symm.trans ‹_›) (by decide)
              | exact absurd a6 ‹_›
              | exact absurd a7 ‹_›
              | exact absurd q6 ‹_›
              | exact absurd q7 ‹_›))
    ·have kh16 := h16; (try simp only [bk] at kh16)
     refine .skip <| bq_n <| sq_n <| .region rfl <| .q (.addL (c := 2) rfl rfl rfl (by decide)) <| .m rfl rfl <| .nil <| sq_n <| .unroll <| .seq <| .region rfl <| .b rfl rfl rfl rfl <| .nil <| sq_n <| .seq <| .condT rfl (by decide) <| .skip <| sq_n <| .seq <| .block <| .seq <| .region rfl <| .m rfl rfl <| .q (.ixv (j := 2) rfl rfl ar_38 s_3 (by decide) (by rfl)) ?_
     refine .z rfl rfl <| .z rfl rfl <| .nil <| sq_n <| .seq <| .draw (tb := [r0 0 0, r0 0 0, r0 0 0, r0 6 0, r0 14 0, r0 30 0, r0 62 0, r0 0 0, r0 0 0, r0 384 0, r0 896 0, r0 1920 0, r0 3968 0, r1 8191 0, r1 16383 1]) rfl (by kernel_rfl) (by kernel_rfl) ?_
     refine .m rfl rfl <| .m rfl rfl <| .q (.fa rfl f_85_1) <| .q (.ixa (j := 2) rfl rfl ae_83 (by decide)) <| .q (.fa rfl f_82_2) <| .q (.fa rfl f_27_0) <| .y rfl rfl rfl (.s rfl (.tl (.tl (.tl (.tl .hd)))) a_3 rfl) <| .m rfl rfl <| .q (.fa rfl f_85_1) <| .q (.ixa (j := 2) rfl rfl ae_83 (by decide)) <| .q (.fa rfl f_82_2) <| .q (.fa rfl f_27_1) <| .y rfl rfl rfl (.s rfl (.tl (.tl (.tl (.tl .hd)))) a_3 rfl) <| .callV .no rfl rfl rfl rfl rfl (isWithin_ok _ _ _ _) <| .q (.not rfl) <| .nil <| sq_n <| .cond rfl (fun h17 => ?_) (fun h17 => ?_)
     ·have kh17 := h17; (try simp only [bk] at kh17)
      refine .seq <| .region rfl <| .z rfl rfl <| .nil <| sq_n <| .ret <| bq_r <| sq_r <| sq_r <| bq_r <| sq_r <| bq_r <| sq_r <| sq_r <| bq_r <| sq_r <| retQ_r (((hle3.trans hle4).trans hle7).trans hle9) (.tmp rfl .nil) rfl ?_
      first
       | (unfold chkE; rw [if_neg hn]; rfl)
       | (refine congrArg (V.i .i64) ?_
          unfold chkE
          rw [if_pos h0, ← hz.ver]
          unfold chkV goodE judT
          first
           | (rw [if_pos (by simp only [Bool.and_eq_true, decide_eq_true_eq]; exact ⟨⟨‹_›, ‹_›, ‹_›, ‹_›, ‹_›, ‹_›, ‹_›⟩, ‹_›, ‹_›, ‹_›, ‹_›, ‹_›, ‹_›, ‹_›⟩)])
           | (refine (if_neg fun hh => ?_).symm
              simp only [Bool.and_eq_true, decide_eq_true_eq] at hh
              obtain ⟨⟨a1, a2, a3, a4, a5, a6, a7⟩, q1, q2, q3, q4, q5, q6, q7⟩ := hh
              first
               | exact absurd (show true = false from a1.symm.trans ‹_›) (by decide)
               | exact absurd (show true = false from a2.symm.trans ‹_›) (by decide)
               | exact absurd (show true = false from a3.symm.trans ‹_›) (by decide)
               | exact absurd (show true = false from a4.symm.trans ‹_›) (by decide)
               | exact absurd (show true = false from a5.symm.trans ‹_›) (by decide)
               | exact absurd (show true = false from q1.symm.trans ‹_›) (by decide)
               | exact absurd (show true = false from q2.symm.trans ‹_›) (by decide)
               | exact absurd (show true = false from q3.symm.trans ‹_›) (by decide)
               | exact absurd (show true = false from q4.symm.trans ‹_›) (by decide)
               | exact absurd (show true = false from q5.symm.trans ‹_›) (by decide)
               | exact absurd a6 ‹_›
               | exact absurd a7 ‹_›
               | exact absurd q6 ‹_›
               | exact absurd q7 ‹_›))
     ·have kh17 := h17; (try simp only [bk] at kh17)
      refine .skip <| bq_n <| sq_n <| .region rfl <| .q (.addL (c := 3) rfl rfl rfl (by decide)) <| .m rfl rfl <| .nil <| sq_n <| .unroll <| .seq <| .region rfl <| .b rfl rfl rfl rfl <| .nil <| sq_n <| .seq <| .condT rfl (by decide) <| .skip <| sq_n <| .seq <| .block <| .seq <| .region rfl <| .m rfl rfl <| .q (.ixv (j := 3) rfl rfl ar_38 s_3 (by decide) (by rfl)) ?_
      refine .z rfl rfl <| .z rfl rfl <| .nil <| sq_n <| .seq <| .draw (tb := [r0 0 0, r0 0 0, r0 0 0, r0 6 0, r0 14 0, r0 30 0, r0 62 0, r0 0 0, r0 0 0, r0 384 0, r0 896 0, r0 1920 0, r0 3968 0, r1 8191 0, r1 16383 1]) rfl (by kernel_rfl) (by kernel_rfl) ?_
      refine .m rfl rfl <| .m rfl rfl <| .q (.fa rfl f_85_1) <| .q (.ixa (j := 3) rfl rfl ae_83 (by decide)) <| .q (.fa rfl f_82_2) <| .q (.fa rfl f_27_0) <| .y rfl rfl rfl (.s rfl (.tl (.tl (.tl (.tl .hd)))) a_3 rfl) <| .m rfl rfl <| .q (.fa rfl f_85_1) <| .q (.ixa (j := 3) rfl rfl ae_83 (by decide)) <| .q (.fa rfl f_82_2) <| .q (.fa rfl f_27_1) <| .y rfl rfl rfl (.s rfl (.tl (.tl (.tl (.tl .hd)))) a_3 rfl) <| .callV .no rfl rfl rfl rfl rfl (isWithin_ok _ _ _ _) <| .q (.not rfl) <| .nil <| sq_n <| .cond rfl (fun h18 => ?_) (fun h18 => ?_)
      ·have kh18 := h18; (try simp only [bk] at kh18)
       refine .seq <| .region rfl <| .z rfl rfl <| .nil <| sq_n <| .ret <| bq_r <| sq_r <| sq_r <| bq_r <| sq_r <| bq_r <| sq_r <| sq_r <| bq_r <| sq_r <| retQ_r (((hle3.trans hle4).trans hle7).trans hle9) (.tmp rfl .nil) rfl ?_
       first
        | (unfold chkE; rw [if_neg hn]; rfl)
        | (refine congrArg (V.i .i64) ?_
           unfold chkE
           rw [if_pos h0, ← hz.ver]
           unfold chkV goodE judT
           first
            | (rw [if_pos (by simp only [Bool.and_eq_true, decide_eq_true_eq]; exact ⟨⟨‹_›, ‹_›, ‹_›, ‹_›, ‹_›, ‹_›, ‹_›⟩, ‹_›, ‹_›, ‹_›, ‹_›, ‹_›, ‹_›, ‹_›⟩)])
            | (refine (if_neg fun hh => ?_).symm
               simp only [Bool.and_eq_true, decide_eq_true_eq] at hh
               obtain ⟨⟨a1, a2, a3, a4, a5, a6, a7⟩, q1, q2, q3, q4, q5, q6, q7⟩ := hh
               first
                | exact absurd (show true = false from a1.symm.trans ‹_›) (by decide)
                | exact absurd (show true = false from a2.symm.trans ‹_›) (by decide)
                | exact absurd (show true = false from a3.symm.trans ‹_›) (by decide)
                | exact absurd (show true = false from a4.symm.trans ‹_›) (by decide)
                | exact absurd (show true = false from a5.symm.trans ‹_›) (by decide)
                | exact absurd (show true = false from q1.symm.trans ‹_›) (by decide)
                | exact absurd (show true = false from q2.symm.trans ‹_›) (by decide)
                | exact absurd (show true = false from q3.symm.trans ‹_›) (by decide)
                | exact absurd (show true = false from q4.symm.trans ‹_›) (by decide)
                | exact absurd (show true = false from q5.symm.trans ‹_›) (by decide)
                | exact absurd a6 ‹_›
                | exact absurd a7 ‹_›
                | exact absurd q6 ‹_›
                | exact absurd q7 ‹_›))
      ·have kh18 := h18; (try simp only [bk] at kh18)
       refine .skip <| bq_n <| sq_n <| .region rfl <| .q (.addL (c := 4) rfl rfl rfl (by decide)) <| .m rfl rfl <| .nil <| sq_n <| .unroll <| .seq <| .region rfl <| .b rfl rfl rfl rfl <| .nil <| sq_n <| .seq <| .condT rfl (by decide) <| .skip <| sq_n <| .seq <| .block <| .seq <| .region rfl <| .m rfl rfl <| .q (.ixv (j := 4) rfl rfl ar_38 s_3 (by decide) (by rfl)) ?_
       refine .z rfl rfl <| .z rfl rfl <| .nil <| sq_n <| .seq <| .draw (tb := [r0 0 0, r0 0 0, r0 0 0, r0 6 0, r0 14 0, r0 30 0, r0 62 0, r0 0 0, r0 0 0, r0 384 0, r0 896 0, r0 1920 0, r0 3968 0, r1 8191 0, r1 16383 1]) rfl (by kernel_rfl) (by kernel_rfl) ?_
       refine .m rfl rfl <| .m rfl rfl <| .q (.fa rfl f_85_1) <| .q (.ixa (j := 4) rfl rfl ae_83 (by decide)) <| .q (.fa rfl f_82_2) <| .q (.fa rfl f_27_0) <| .y rfl rfl rfl (.s rfl (.tl (.tl (.tl (.tl .hd)))) a_3 rfl) <| .m rfl rfl <| .q (.fa rfl f_85_1) <| .q (.ixa (j := 4) rfl rfl ae_83 (by decide)) <| .q (.fa rfl f_82_2) <| .q (.fa rfl f_27_1) <| .y rfl rfl rfl (.s rfl (.tl (.tl (.tl (.tl .hd)))) a_3 rfl) <| .callV .no rfl rfl rfl rfl rfl (isWithin_ok _ _ _ _) <| .q (.not rfl) <| .nil <| sq_n <| .cond rfl (fun h19 => ?_) (fun h19 => ?_)
       ·have kh19 := h19; (try simp only [bk] at kh19)
        refine .seq <| .region rfl <| .z rfl rfl <| .nil <| sq_n <| .ret <| bq_r <| sq_r <| sq_r <| bq_r <| sq_r <| bq_r <| sq_r <| sq_r <| bq_r <| sq_r <| retQ_r (((hle3.trans hle4).trans hle7).trans hle9) (.tmp rfl .nil) rfl ?_
        first
         | (unfold chkE; rw [if_neg hn]; rfl)
         | (refine congrArg (V.i .i64) ?_
            unfold chkE
            rw [if_pos h0, ← hz.ver]
            unfold chkV goodE judT
            first
             | (rw [if_pos (by simp only [Bool.and_eq_true, decide_eq_true_eq]; exact ⟨⟨‹_›, ‹_›, ‹_›, ‹_›, ‹_›, ‹_›, ‹_›⟩, ‹_›, ‹_›, ‹_›, ‹_›, ‹_›, ‹_›, ‹_›⟩)])
             | (refine (if_neg fun hh => ?_).symm
                simp only [Bool.and_eq_true, decide_eq_true_eq] at hh
                obtain ⟨⟨a1, a2, a3, a4, a5, a6, a7⟩, q1, q2, q3, q4, q5, q6, q7⟩ := hh
                first
                 | exact absurd (show true = false from a1.symm.trans ‹_›) (by decide)
                 | exact absurd (show true = false from a2.symm.trans ‹_›) (by decide)
                 | exact absurd (show true = false from a3.symm.trans ‹_›) (by decide)
                 | exact absurd (show true = false from a4.symm.trans ‹_›) (by decide)
                 | exact absurd (show true = false from a5.symm.trans ‹_›) (by decide)
                 | exact absurd (show true = false from q1.symm.trans ‹_›) (by decide)
                 | exact absurd (show true = false from q2.symm.trans ‹_›) (by decide)
                 | exact absurd (show true = false from q3.symm.trans ‹_›) (by decide)
                 | exact absurd (show true = false from q4.symm.trans ‹_›) (by decide)
                 | exact absurd (show true = false from q5.symm.trans ‹_›) (by decide)
                 | exact absurd a6 ‹_›
                 | exact absurd a7 ‹_›
                 | exact absurd q6 ‹_›
                 | exact absurd q7 ‹_›))
       ·have kh19 := h19; (try simp only [bk] at kh19)
        refine .skip <| bq_n <| sq_n <| .region rfl <| .q (.addL (c := 5) rfl rfl rfl (by decide)) <| .m rfl rfl <| .nil <| sq_n <| .unroll <| .seq <| .region rfl <| .b rfl rfl rfl rfl <| .nil <| sq_n <| .seq <| .condF rfl (by decide) <| .exit <| sq_e <| sq_e <| bq_x rfl <| sq_n <| .seq <| .draw (tb := [r0 0 0, r0 1 0, r0 3 0, r0 7 0, r0 0 0, r0 16 0, r1 63 0, r1 127 0, r0 255 0, r0 511 0, r0 1023 0, r0 2047 0, r0 255 0, r0 255 0, r0 8447 0, r0 24831 0, r0 57599 0, r0 131071 0, r0 255 0, r0 262399 0, r1 1048575 1, r1 2097151 1]) rfl (by kernel_rfl) (by kernel_rfl) ?_
        refine .m rfl rfl <| .q (.ixa (j := 0) rfl rfl ae_41 (by decide)) <| .q (.fa rfl f_40_0) <| .y rfl rfl rfl (.s rfl (.tl (.tl (.tl (.tl (.tl .hd))))) a_3 rfl) <| .q (.fa rfl f_40_0) <| .y rfl rfl rfl (.s rfl .hd a_3 rfl) <| .b rfl rfl rfl rfl <| .m rfl rfl <| .split (t := 88) rfl (fun h20 => ?_) (fun h20 => ?_)
        ·have kh20 := h20; (try simp only [bk] at kh20)
         refine .k h20 <| .k h20 <| .k h20 <| .k h20 <| .k h20 <| .k h20 <| .k h20 <| .k h20 <| .k h20 <| .skipE (.yes rfl rfl h20) rfl rfl <| .k h20 <| .k h20 <| .k h20 <| .q (.pickT rfl h20 rfl) <| .nil <| sq_n <| .condT rfl rfl <| .seq <| .region rfl <| .z rfl rfl <| .nil <| sq_n <| .ret <| bq_r <| sq_r <| sq_r <| bq_r <| sq_r <| retQ_r (((hle3.trans hle4).trans hle7).trans hle9) (.tmp rfl .nil) rfl ?_
         first
          | (unfold chkE; rw [if_neg hn]; rfl)
          | (refine congrArg (V.i .i64) ?_
             unfold chkE
             rw [if_pos h0, ← hz.ver]
             unfold chkV goodE judT
             first
              | (rw [if_pos (by simp only [Bool.and_eq_true, decide_eq_true_eq]; exact ⟨⟨‹_›, ‹_›, ‹_›, ‹_›, ‹_›, ‹_›, ‹_›⟩, ‹_›, ‹_›, ‹_›, ‹_›, ‹_›, ‹_›, ‹_›⟩)])
              | (refine (if_neg fun hh => ?_).symm
                 simp only [Bool.and_eq_true, decide_eq_true_eq] at hh
                 obtain ⟨⟨a1, a2, a3, a4, a5, a6, a7⟩, q1, q2, q3, q4, q5, q6, q7⟩ := hh
                 first
                  | exact absurd (show true = false from a1.symm.trans ‹_›) (by decide)
                  | exact absurd (show true = false from a2.symm.trans ‹_›) (by decide)
                  | exact absurd (show true = false from a3.symm.trans ‹_›) (by decide)
                  | exact absurd (show true = false from a4.symm.trans ‹_›) (by decide)
                  | exact absurd (show true = false from a5.symm.trans ‹_›) (by decide)
                  | exact absurd (show true = false from q1.symm.trans ‹_›) (by decide)
                  | exact absurd (show true = false from q2.symm.trans ‹_›) (by decide)
                  | exact absurd (show true = false from q3.symm.trans ‹_›) (by decide)
                  | exact absurd (show true = false from q4.symm.trans ‹_›) (by decide)
                  | exact absurd (show true = false from q5.symm.trans ‹_›) (by decide)
                  | exact absurd a6 ‹_›
                  | exact absurd a7 ‹_›
                  | exact absurd q6 ‹_›
                  | exact absurd q7 ‹_›))
        ·have kh20 := h20; (try simp only [bk] at kh20)
         refine .py h20 (.move rfl) <| .py h20 (.nil rfl) <| .py h20 (.fa rfl f_132_1) <| .ld (k := 0) (.yes rfl rfl h20) rfl rfl rfl trivial (.a (vs := [_, _, _, _, _, _, _, _, _, _, _, _]) rfl (.g hz8) a_97 s_97 rfl rfl) <| .py h20 (.move rfl) <| .py h20 (.move rfl) <| .py h20 (.ixa (j := 0) rfl rfl ae_41 (by decide)) <| .py h20 (.fa rfl f_40_1) <| .ld (k := 0) (.yes rfl rfl h20) rfl rfl rfl trivial (.a (vs := [_, _, _, _, _]) rfl (.tl (.tl (.tl (.tl (.tl .hd))))) a_38 s_38 rfl rfl) <| .callV (.yes rfl rfl h20) rfl rfl rfl rfl rfl (tonnage_ok _ _ _ _ _ _ _ _ _ ⟨_, _, rfl, hp4, hl4⟩ hz.f01) <| .py h20 (.fa rfl f_40_0) <| .ld (k := 1) (.yes rfl rfl h20) rfl rfl rfl trivial (.s rfl .hd a_3 rfl) <| .py h20 (.bin rfl rfl rfl) <| .q (.pickF rfl h20 rfl) <| .nil <| sq_n <| .cond rfl (fun h21 => ?_) (fun h21 => ?_)
         ·have kh21 := h21; (try simp only [bk] at kh21)
          refine .seq <| .region rfl <| .z rfl rfl <| .nil <| sq_n <| .ret <| bq_r <| sq_r <| sq_r <| bq_r <| sq_r <| retQ_r (((hle3.trans hle4).trans hle7).trans hle9) (.tmp rfl .nil) rfl ?_
          first
           | (unfold chkE; rw [if_neg hn]; rfl)
           | (refine congrArg (V.i .i64) ?_
              unfold chkE
              rw [if_pos h0, ← hz.ver]
              unfold chkV goodE judT
              first
               | (rw [if_pos (by simp only [Bool.and_eq_true, decide_eq_true_eq]; exact ⟨⟨‹_›, ‹_›, ‹_›, ‹_›, ‹_›, ‹_›, ‹_›⟩, ‹_›, ‹_›, ‹_›, ‹_›, ‹_›, ‹_›, ‹_›⟩)])
               | (refine (if_neg fun hh => ?_).symm
                  simp only [Bool.and_eq_true, decide_eq_true_eq] at hh
                  obtain ⟨⟨a1, a2, a3, a4, a5, a6, a7⟩, q1, q2, q3, q4, q5, q6, q7⟩ := hh
                  first
                   | exact absurd (show true = false from a1.symm.trans ‹_›) (by decide)
                   | exact absurd (show true = false from a2.symm.trans ‹_›) (by decide)
                   | exact absurd (show true = false from a3.symm.trans ‹_›) (by decide)
                   | exact absurd (show true = false from a4.symm.trans ‹_›) (by decide)
                   | exact absurd (show true = false from a5.symm.trans ‹_›) (by decide)
                   | exact absurd (show true = false from q1.symm.trans ‹_›) (by decide)
                   | exact absurd (show true = false from q2.symm.trans ‹_›) (by decide)
                   | exact absurd (show true = false from q3.symm.trans ‹_›) (by decide)
                   | exact absurd (show true = false from q4.symm.trans ‹_›) (by decide)
                   | exact absurd (show true = false from q5.symm.trans ‹_›) (by decide)
                   | exact absurd a6 ‹_›
                   | exact absurd a7 ‹_›
                   | exact absurd q6 ‹_›
                   | exact absurd q7 ‹_›))
         ·have kh21 := h21; (try simp only [bk] at kh21)
          refine .skip <| bq_n <| sq_n <| .region rfl <| .q (.addL (c := 1) rfl rfl rfl (by decide)) <| .m rfl rfl <| .nil <| sq_n <| .unroll <| .seq <| .region rfl <| .b rfl rfl rfl rfl <| .nil <| sq_n <| .seq <| .condT rfl (by decide) <| .skip <| sq_n <| .seq <| .block <| .seq <| .region rfl <| .m rfl rfl <| .q (.ixn (j := 1) rfl .sl rfl e_139 (by decide)) <| .w (.a (vs := [_, _, _, _, _, _]) rfl (.tl .hd) a_40 s_40 rfl rfl) <| .alloc .no rfl z_40 fun b22 => .z rfl rfl <| .st (cs' := [_, _, _, _, _, _]) .no rfl rfl rfl rfl s_40 rfl rfl .hd rfl rfl <| .nil <| sq_n <| .seq <| .seq <| .region rfl <| .m rfl rfl <| .q (.ixa (j := 1) rfl rfl ae_41 (by decide)) <| .q (.fa rfl f_40_1) ?_
          refine .w (.a (vs := [_, _, _, _, _]) rfl (.tl (.tl (.tl (.tl (.tl (.tl .hd)))))) a_38 s_38 rfl rfl) <| .m rfl rfl <| .nil <| sq_n <| .block <| .unroll <| .seq <| .region rfl <| .b rfl rfl rfl rfl <| .nil <| sq_n <| .seq <| .condT rfl (by decide) <| .skip <| sq_n <| .seq <| .block <| .seq <| .region rfl <| .m rfl rfl <| .q (.ixv (j := 0) rfl rfl ar_38 s_3 (by decide) (by rfl)) ?_
          refine .z rfl rfl <| .z rfl rfl <| .nil <| sq_n <| .seq <| .draw (tb := [r0 0 0, r0 0 0, r0 0 0, r0 6 0, r0 14 0, r0 30 0, r0 62 0, r0 0 0, r0 0 0, r0 384 0, r0 896 0, r0 1920 0, r0 3968 0, r1 8191 0, r1 16383 1]) rfl (by kernel_rfl) (by kernel_rfl) ?_
          refine .m rfl rfl <| .m rfl rfl <| .q (.fa rfl f_85_1) <| .q (.ixa (j := 0) rfl rfl ae_83 (by decide)) <| .q (.fa rfl f_82_2) <| .q (.fa rfl f_27_0) <| .y rfl rfl rfl (.s rfl (.tl (.tl (.tl (.tl (.tl .hd))))) a_3 rfl) <| .m rfl rfl <| .q (.fa rfl f_85_1) <| .q (.ixa (j := 0) rfl rfl ae_83 (by decide)) <| .q (.fa rfl f_82_2) <| .q (.fa rfl f_27_1) <| .y rfl rfl rfl (.s rfl (.tl (.tl (.tl (.tl (.tl .hd))))) a_3 rfl) <| .callV .no rfl rfl rfl rfl rfl (isWithin_ok _ _ _ _) <| .q (.not rfl) <| .nil <| sq_n <| .cond rfl (fun h23 => ?_) (fun h23 => ?_)
          ·have kh23 := h23; (try simp only [bk] at kh23)
           refine .seq <| .region rfl <| .z rfl rfl <| .nil <| sq_n <| .ret <| bq_r <| sq_r <| sq_r <| bq_r <| sq_r <| bq_r <| sq_r <| sq_r <| bq_r <| sq_r <| retQ_r (((hle3.trans hle4).trans hle7).trans hle9) (.tmp rfl .nil) rfl ?_
           first
            | (unfold chkE; rw [if_neg hn]; rfl)
            | (refine congrArg (V.i .i64) ?_
               unfold chkE
               rw [if_pos h0, ← hz.ver]
               unfold chkV goodE judT
               first
                | (rw [if_pos (by simp only [Bool.and_eq_true, decide_eq_true_eq]; exact ⟨⟨‹_›, ‹_›, ‹_›, ‹_›, ‹_›, ‹_›, ‹_›⟩, ‹_›, ‹_›, ‹_›, ‹_›, ‹_›, ‹_›, ‹_›⟩)])
                | (refine (if_neg fun hh => ?_).symm
                   simp only [Bool.and_eq_true, decide_eq_true_eq] at hh
                   obtain ⟨⟨a1, a2, a3, a4, a5, a6, a7⟩, q1, q2, q3, q4, q5, q6, q7⟩ := hh
                   first
                    | exact absurd (show true = false from a1.symm.trans ‹_›) (by decide)
                    | exact absurd (show true = false from a2.symm.trans ‹_›) (by decide)
                    | exact absurd (show true = false from a3.symm.trans ‹_›) (by decide)
                    | exact absurd (show true = false from a4.symm.trans ‹_›) (by decide)
                    | exact absurd (show true = false from a5.symm.trans ‹_›) (by decide)
                    | exact absurd (show true = false from q1.symm.trans ‹_›) (by decide)
                    | exact absurd (show true = false from q2.symm.trans ‹_›) (by decide)
                    | exact absurd (show true = false from q3.symm.trans ‹_›) (by decide)
                    | exact absurd (show true = false from q4.symm.trans ‹_›) (by decide)
                    | exact absurd (show true = false from q5.symm.trans ‹_›) (by decide)
                    | exact absurd a6 ‹_›
                    | exact absurd a7 ‹_›
                    | exact absurd q6 ‹_›
                    | exact absurd q7 ‹_›))
          ·have kh23 := h23; (try simp only [bk] at kh23)
           refine .skip <| bq_n <| sq_n <| .region rfl <| .q (.addL (c := 1) rfl rfl rfl (by decide)) <| .m rfl rfl <| .nil <| sq_n <| .unroll <| .seq <| .region rfl <| .b rfl rfl rfl rfl <| .nil <| sq_n <| .seq <| .condT rfl (by decide) <| .skip <| sq_n <| .seq <| .block <| .seq <| .region rfl <| .m rfl rfl <| .q (.ixv (j := 1) rfl rfl ar_38 s_3 (by decide) (by rfl)) ?_
           refine .z rfl rfl <| .z rfl rfl <| .nil <| sq_n <| .seq <| .draw (tb := [r0 0 0, r0 0 0, r0 0 0, r0 6 0, r0 14 0, r0 30 0, r0 62 0, r0 0 0, r0 0 0, r0 384 0, r0 896 0, r0 1920 0, r0 3968 0, r1 8191 0, r1 16383 1]) rfl (by kernel_rfl) (by kernel_rfl) ?_
           refine .m rfl rfl <| .m rfl rfl <| .q (.fa rfl f_85_1) <| .q (.ixa (j := 1) rfl rfl ae_83 (by decide)) <| .q (.fa rfl f_82_2) <| .q (.fa rfl f_27_0) <| .y rfl rfl rfl (.s rfl (.tl (.tl (.tl (.tl (.tl .hd))))) a_3 rfl) <| .m rfl rfl <| .q (.fa rfl f_85_1) <| .q (.ixa (j := 1) rfl rfl ae_83 (by decide)) <| .q (.fa rfl f_82_2) <| .q (.fa rfl f_27_1) <| .y rfl rfl rfl (.s rfl (.tl (.tl (.tl (.tl (.tl .hd))))) a_3 rfl) <| .callV .no rfl rfl rfl rfl rfl (isWithin_ok _ _ _ _) <| .q (.not rfl) <| .nil <| sq_n <| .cond rfl (fun h24 => ?_) (fun h24 => ?_)
           ·have kh24 := h24; (try simp only [bk] at kh24)
            refine .seq <| .region rfl <| .z rfl rfl <| .nil <| sq_n <| .ret <| bq_r <| sq_r <| sq_r <| bq_r <| sq_r <| bq_r <| sq_r <| sq_r <| bq_r <| sq_r <| retQ_r (((hle3.trans hle4).trans hle7).trans hle9) (.tmp rfl .nil) rfl ?_
            first
             | (unfold chkE; rw [if_neg hn]; rfl)
             | (refine congrArg (V.i .i64) ?_
                unfold chkE
                rw [if_pos h0, ← hz.ver]
                unfold chkV goodE judT
                first
                 | (rw [if_pos (by simp only [Bool.and_eq_true, decide_eq_true_eq]; exact ⟨⟨‹_›, ‹_›, ‹_›, ‹_›, ‹_›, ‹_›, ‹_›⟩, ‹_›, ‹_›, ‹_›, ‹_›, ‹_›, ‹_›, ‹_›⟩)])
                 | (refine (if_neg fun hh => ?_).symm
                    simp only [Bool.and_eq_true, decide_eq_true_eq] at hh
                    obtain ⟨⟨a1, a2, a3, a4, a5, a6, a7⟩, q1, q2, q3, q4, q5, q6, q7⟩ := hh
                    first
                     | exact absurd (show true = false from a1.symm.trans ‹_›) (by decide)
                     | exact absurd (show true = false from a2.symm.trans ‹_›) (by decide)
                     | exact absurd (show true = false from a3.symm.trans ‹_›) (by decide)
                     | exact absurd (show true = false from a4.symm.trans ‹_›) (by decide)
                     | exact absurd (show true = false from a5.symm.trans ‹_›) (by decide)
                     | exact absurd (show true = false from q1.symm.trans ‹_›) (by decide)
                     | exact absurd (show true = false from q2.symm.trans ‹_›) (by decide)
                     | exact absurd (show true = false from q3.symm.trans ‹_›) (by decide)
                     | exact absurd (show true = false from q4.symm.trans ‹_›) (by decide)
                     | exact absurd (show true = false from q5.symm.trans ‹_›) (by decide)
                     | exact absurd a6 ‹_›
                     | exact absurd a7 ‹_›
                     | exact absurd q6 ‹_›
                     | exact absurd q7 ‹_›))
           ·have kh24 := h24; (try simp only [bk] at kh24)
            refine .skip <| bq_n <| sq_n <| .region rfl <| .q (.addL (c := 2) rfl rfl rfl (by decide)) <| .m rfl rfl <| .nil <| sq_n <| .unroll <| .seq <| .region rfl <| .b rfl rfl rfl rfl <| .nil <| sq_n <| .seq <| .condT rfl (by decide) <| .skip <| sq_n <| .seq <| .block <| .seq <| .region rfl <| .m rfl rfl <| .q (.ixv (j := 2) rfl rfl ar_38 s_3 (by decide) (by rfl)) ?_
            refine .z rfl rfl <| .z rfl rfl <| .nil <| sq_n <| .seq <| .draw (tb := [r0 0 0, r0 0 0, r0 0 0, r0 6 0, r0 14 0, r0 30 0, r0 62 0, r0 0 0, r0 0 0, r0 384 0, r0 896 0, r0 1920 0, r0 3968 0, r1 8191 0, r1 16383 1]) rfl (by kernel_rfl) (by kernel_rfl) ?_
            refine .m rfl rfl <| .m rfl rfl <| .q (.fa rfl f_85_1) <| .q (.ixa (j := 2) rfl rfl ae_83 (by decide)) <| .q (.fa rfl f_82_2) <| .q (.fa rfl f_27_0) <| .y rfl rfl rfl (.s rfl (.tl (.tl (.tl (.tl (.tl .hd))))) a_3 rfl) <| .m rfl rfl <| .q (.fa rfl f_85_1) <| .q (.ixa (j := 2) rfl rfl ae_83 (by decide)) <| .q (.fa rfl f_82_2) <| .q (.fa rfl f_27_1) <| .y rfl rfl rfl (.s rfl (.tl (.tl (.tl (.tl (.tl .hd))))) a_3 rfl) <| .callV .no rfl rfl rfl rfl rfl (isWithin_ok _ _ _ _) <| .q (.not rfl) <| .nil <| sq_n <| .cond rfl (fun h25 => ?_) (fun h25 => ?_)
            ·have kh25 := h25; (try simp only [bk] at kh25)
             refine .seq <| .region rfl <| .z rfl rfl <| .nil <| sq_n <| .ret <| bq_r <| sq_r <| sq_r <| bq_r <| sq_r <| bq_r <| sq_r <| sq_r <| bq_r <| sq_r <| retQ_r (((hle3.trans hle4).trans hle7).trans hle9) (.tmp rfl .nil) rfl ?_
             first
              | (unfold chkE; rw [if_neg hn]; rfl)
              | (refine congrArg (V.i .i64) ?_
                 unfold chkE
                 rw [if_pos h0, ← hz.ver]
                 unfold chkV goodE judT
                 first
                  | (rw [if_pos (by simp only [Bool.and_eq_true, decide_eq_true_eq]; exact ⟨⟨‹_›, ‹_›, ‹_›, ‹_›, ‹_›, ‹_›, ‹_›⟩, ‹_›, ‹_›, ‹_›, ‹_›, ‹_›, ‹_›, ‹_›⟩)])
                  | (refine (if_neg fun hh => ?_).symm
                     simp only [Bool.and_eq_true, decide_eq_true_eq] at hh
                     obtain ⟨⟨a1, a2, a3, a4, a5, a6, a7⟩, q1, q2, q3, q4, q5, q6, q7⟩ := hh
                     first
                      | exact absurd (show true = false from a1.symm.trans ‹_›) (by decide)
                      | exact absurd (show true = false from a2.symm.trans ‹_›) (by decide)
                      | exact absurd (show true = false from a3.symm.trans ‹_›) (by decide)
                      | exact absurd (show true = false from a4.symm.trans ‹_›) (by decide)
                      | exact absurd (show true = false from a5.symm.trans ‹_›) (by decide)
                      | exact absurd (show true = false from q1.symm.trans ‹_›) (by decide)
                      | exact absurd (show true = false from q2.symm.trans ‹_›) (by decide)
                      | exact absurd (show true = false from q3.symm.trans ‹_›) (by decide)
                      | exact absurd (show true = false from q4.symm.trans ‹_›) (by decide)
                      | exact absurd (show true = false from q5.symm.trans ‹_›) (by decide)
                      | exact absurd a6 ‹_›
                      | exact absurd a7 ‹_›
                      | exact absurd q6 ‹_›
                      | exact absurd q7 ‹_›))
            ·have kh25 := h25; (try simp only [bk] at kh25)
             refine .skip <| bq_n <| sq_n <| .region rfl <| .q (.addL (c := 3) rfl rfl rfl (by decide)) <| .m rfl rfl <| .nil <| sq_n <| .unroll <| .seq <| .region rfl <| .b rfl rfl rfl rfl <| .nil <| sq_n <| .seq <| .condT rfl (by decide) <| .skip <| sq_n <| .seq <| .block <| .seq <| .region rfl <| .m rfl rfl <| .q (.ixv (j := 3) rfl rfl ar_38 s_3 (by decide) (by rfl)) ?_
             refine .z rfl rfl <| .z rfl rfl <| .nil <| sq_n <| .seq <| .draw (tb := [r0 0 0, r0 0 0, r0 0 0, r0 6 0, r0 14 0, r0 30 0, r0 62 0, r0 0 0, r0 0 0, r0 384 0, r0 896 0, r0 1920 0, r0 3968 0, r1 8191 0, r1 16383 1]) rfl (by kernel_rfl) (by kernel_rfl) ?_
             refine .m rfl rfl <| .m rfl rfl <| .q (.fa rfl f_85_1) <| .q (.ixa (j := 3) rfl rfl ae_83 (by decide)) <| .q (.fa rfl f_82_2) <| .q (.fa rfl f_27_0) <| .y rfl rfl rfl (.s rfl (.tl (.tl (.tl (.tl (.tl .hd))))) a_3 rfl) <| .m rfl rfl <| .q (.fa rfl f_85_1) <| .q (.ixa (j := 3) rfl rfl ae_83 (by decide)) <| .q (.fa rfl f_82_2) <| .q (.fa rfl f_27_1) <| .y rfl rfl rfl (.s rfl (.tl (.tl (.tl (.tl (.tl .hd))))) a_3 rfl) <| .callV .no rfl rfl rfl rfl rfl (isWithin_ok _ _ _ _) <| .q (.not rfl) <| .nil <| sq_n <| .cond rfl (fun h26 => ?_) (fun h26 => ?_)
             ·have kh26 := h26; (try simp only [bk] at kh26)
              refine .seq <| .region rfl <| .z rfl rfl <| .nil <| sq_n <| .ret <| bq_r <| sq_r <| sq_r <| bq_r <| sq_r <| bq_r <| sq_r <| sq_r <| bq_r <| sq_r <| retQ_r (((hle3.trans hle4).trans hle7).trans hle9) (.tmp rfl .nil) rfl ?_
              first
               | (unfold chkE; rw [if_neg hn]; rfl)
               | (refine congrArg (V.i .i64) ?_
                  unfold chkE
                  rw [if_pos h0, ← hz.ver]
                  unfold chkV goodE judT
                  first
                   | (rw [if_pos (by simp only [Bool.and_eq_true, decide_eq_true_eq]; exact ⟨⟨‹_›, ‹_›, ‹_›, ‹_›, ‹_›, ‹_›, ‹_›⟩, ‹_›, ‹_›, ‹_›, ‹_›, ‹_›, ‹_›, ‹_›⟩)])
                   | (refine (if_neg fun hh => ?_).symm
                      simp only [Bool.and_eq_true, decide_eq_true_eq] at hh
                      obtain ⟨⟨a1, a2, a3, a4, a5, a6, a7⟩, q1, q2, q3, q4, q5, q6, q7⟩ := hh
                      first
                       | exact absurd (show true = false from a1.symm.trans ‹_›) (by decide)
                       | exact absurd (show true = false from a2.symm.trans ‹_›) (by decide)
                       | exact absurd (show true = false from a3.symm.trans ‹_›) (by decide)
                       | exact absurd (show true = false from a4.symm.trans ‹_›) (by decide)
                       | exact absurd (show true = false from a5.symm.trans ‹_›) (by decide)
                       | exact absurd (show true = false from q1.symm.trans ‹_›) (by decide)
                       | exact absurd (show true = false from q2.symm.trans ‹_›) (by decide)
                       | exact absurd (show true = false from q3.symm.trans ‹_›) (by decide)
                       | exact absurd (show true = false from q4.symm.trans ‹_›) (by decide)
                       | exact absurd (show true = false from q5.symm.trans ‹_›) (by decide)
                       | exact absurd a6 ‹_›
                       | exact absurd a7 ‹_›
                       | exact absurd q6 ‹_›
                       | exact absurd q7 ‹_›))
             ·have kh26 := h26; (try simp only [bk] at kh26)
              refine .skip <| bq_n <| sq_n <| .region rfl <| .q (.addL (c := 4) rfl rfl rfl (by decide)) <| .m rfl rfl <| .nil <| sq_n <| .unroll <| .seq <| .region rfl <| .b rfl rfl rfl rfl <| .nil <| sq_n <| .seq <| .condT rfl (by decide) <| .skip <| sq_n <| .seq <| .block <| .seq <| .region rfl <| .m rfl rfl <| .q (.ixv (j := 4) rfl rfl ar_38 s_3 (by decide) (by rfl)) ?_
              refine .z rfl rfl <| .z rfl rfl <| .nil <| sq_n <| .seq <| .draw (tb := [r0 0 0, r0 0 0, r0 0 0, r0 6 0, r0 14 0, r0 30 0, r0 62 0, r0 0 0, r0 0 0, r0 384 0, r0 896 0, r0 1920 0, r0 3968 0, r1 8191 0, r1 16383 1]) rfl (by kernel_rfl) (by kernel_rfl) ?_
              refine .m rfl rfl <| .m rfl rfl <| .q (.fa rfl f_85_1) <| .q (.ixa (j := 4) rfl rfl ae_83 (by decide)) <| .q (.fa rfl f_82_2) <| .q (.fa rfl f_27_0) <| .y rfl rfl rfl (.s rfl (.tl (.tl (.tl (.tl (.tl .hd))))) a_3 rfl) <| .m rfl rfl <| .q (.fa rfl f_85_1) <| .q (.ixa (j := 4) rfl rfl ae_83 (by decide)) <| .q (.fa rfl f_82_2) <| .q (.fa rfl f_27_1) <| .y rfl rfl rfl (.s rfl (.tl (.tl (.tl (.tl (.tl .hd))))) a_3 rfl) <| .callV .no rfl rfl rfl rfl rfl (isWithin_ok _ _ _ _) <| .q (.not rfl) <| .nil <| sq_n <| .cond rfl (fun h27 => ?_) (fun h27 => ?_)
              ·have kh27 := h27; (try simp only [bk] at kh27)
               refine .seq <| .region rfl <| .z rfl rfl <| .nil <| sq_n <| .ret <| bq_r <| sq_r <| sq_r <| bq_r <| sq_r <| bq_r <| sq_r <| sq_r <| bq_r <| sq_r <| retQ_r (((hle3.trans hle4).trans hle7).trans hle9) (.tmp rfl .nil) rfl ?_
               first
                | (unfold chkE; rw [if_neg hn]; rfl)
                | (refine congrArg (V.i .i64) ?_
                   unfold chkE
                   rw [if_pos h0, ← hz.ver]
                   unfold chkV goodE judT
                   first
                    | (rw [if_pos (by simp only [Bool.and_eq_true, decide_eq_true_eq]; exact ⟨⟨‹_›, ‹_›, ‹_›, ‹_›, ‹_›, ‹_›, ‹_›⟩, ‹_›, ‹_›, ‹_›, ‹_›, ‹_›, ‹_›, ‹_›⟩)])
                    | (refine (if_neg fun hh => ?_).symm
                       simp only [Bool.and_eq_true, decide_eq_true_eq] at hh
                       obtain ⟨⟨a1, a2, a3, a4, a5, a6, a7⟩, q1, q2, q3, q4, q5, q6, q7⟩ := hh
                       first
                        | exact absurd (show true = false from a1.symm.trans ‹_›) (by decide)
                        | exact absurd (show true = false from a2.symm.trans ‹_›) (by decide)
                        | exact absurd (show true = false from a3.symm.trans ‹_›) (by decide)
                        | exact absurd (show true = false from a4.symm.trans ‹_›) (by decide)
                        | exact absurd (show true = false from a5.symm.trans ‹_›) (by decide)
                        | exact absurd (show true = false from q1.symm.trans ‹_›) (by decide)
                        | exact absurd (show true = false from q2.symm.trans ‹_›) (by decide)
                        | exact absurd (show true = false from q3.symm.trans ‹_›) (by decide)
                        | exact absurd (show true = false from q4.symm.trans ‹_›) (by decide)
                        | exact absurd (show true = false from q5.symm.trans ‹_›) (by decide)
                        | exact absurd a6 ‹_›
                        | exact absurd a7 ‹_›
                        | exact absurd q6 ‹_›
                        | exact absurd q7 ‹_›))
              ·have kh27 := h27; (try simp only [bk] at kh27)
               refine .skip <| bq_n <| sq_n <| .region rfl <| .q (.addL (c := 5) rfl rfl rfl (by decide)) <| .m rfl rfl <| .nil <| sq_n <| .unroll <| .seq <| .region rfl <| .b rfl rfl rfl rfl <| .nil <| sq_n <| .seq <| .condF rfl (by decide) <| .exit <| sq_e <| sq_e <| bq_x rfl <| sq_n <| .seq <| .draw (tb := [r0 0 0, r0 1 0, r0 3 0, r0 7 0, r0 0 0, r0 16 0, r1 63 0, r1 127 0, r0 255 0, r0 511 0, r0 1023 0, r0 2047 0, r0 255 0, r0 255 0, r0 8447 0, r0 24831 0, r0 57599 0, r0 131071 0, r0 255 0, r0 262399 0, r1 1048575 1, r1 2097151 1]) rfl (by kernel_rfl) (by kernel_rfl) ?_
               refine .m rfl rfl <| .q (.ixa (j := 1) rfl rfl ae_41 (by decide)) <| .q (.fa rfl f_40_0) <| .y rfl rfl rfl (.s rfl (.tl (.tl (.tl (.tl (.tl (.tl .hd)))))) a_3 rfl) <| .q (.fa rfl f_40_0) <| .y rfl rfl rfl (.s rfl .hd a_3 rfl) <| .b rfl rfl rfl rfl <| .m rfl rfl <| .split (t := 88) rfl (fun h28 => ?_) (fun h28 => ?_)
               ·have kh28 := h28; (try simp only [bk] at kh28)
                refine .k h28 <| .k h28 <| .k h28 <| .k h28 <| .k h28 <| .k h28 <| .k h28 <| .k h28 <| .k h28 <| .skipE (.yes rfl rfl h28) rfl rfl <| .k h28 <| .k h28 <| .k h28 <| .q (.pickT rfl h28 rfl) <| .nil <| sq_n <| .condT rfl rfl <| .seq <| .region rfl <| .z rfl rfl <| .nil <| sq_n <| .ret <| bq_r <| sq_r <| sq_r <| bq_r <| sq_r <| retQ_r (((hle3.trans hle4).trans hle7).trans hle9) (.tmp rfl .nil) rfl ?_
                first
                 | (unfold chkE; rw [if_neg hn]; rfl)
                 | (refine congrArg (V.i .i64) ?_
                    unfold chkE
                    rw [if_pos h0, ← hz.ver]
                    unfold chkV goodE judT
                    first
                     | (rw [if_pos (by simp only [Bool.and_eq_true, decide_eq_true_eq]; exact ⟨⟨‹_›, ‹_›, ‹_›, ‹_›, ‹_›, ‹_›, ‹_›⟩, ‹_›, ‹_›, ‹_›, ‹_›, ‹_›, ‹_›, ‹_›⟩)])
                     | (refine (if_neg fun hh => ?_).symm
                        simp only [Bool.and_eq_true, decide_eq_true_eq] at hh
                        obtain ⟨⟨a1, a2, a3, a4, a5, a6, a7⟩, q1, q2, q3, q4, q5, q6, q7⟩ := hh
                        first
                         | exact absurd (show true = false from a1.symm.trans ‹_›) (by decide)
                         | exact absurd (show true = false from a2.symm.trans ‹_›) (by decide)
                         | exact absurd (show true = false from a3.symm.trans ‹_›) (by decide)
                         | exact absurd (show true = false from a4.symm.trans ‹_›) (by decide)
                         | exact absurd (show true = false from a5.symm.trans ‹_›) (by decide)
                         | exact absurd (show true = false from q1.symm.trans ‹_›) (by decide)
                         | exact absurd (show true = false from q2.symm.trans ‹_›) (by decide)
                         | exact absurd (show true = false from q3.symm.trans ‹_›) (by decide)
                         | exact absurd (show true = false from q4.symm.trans ‹_›) (by decide)
                         | exact absurd (show true = false from q5.symm.trans ‹_›) (by decide)
                         | exact absurd a6 ‹_›
                         | exact absurd a7 ‹_›
                         | exact absurd q6 ‹_›
                         | exact absurd q7 ‹_›))
               ·have kh28 := h28; (try simp only [bk] at kh28)
                refine .py h28 (.move rfl) <| .py h28 (.nil rfl) <| .py h28 (.fa rfl f_132_1) <| .ld (k := 0) (.yes rfl rfl h28) rfl rfl rfl trivial (.a (vs := [_, _, _, _, _, _, _, _, _, _, _, _]) rfl (.g hz8) a_97 s_97 rfl rfl) <| .py h28 (.move rfl) <| .py h28 (.move rfl) <| .py h28 (.ixa (j := 1) rfl rfl ae_41 (by decide)) <| .py h28 (.fa rfl f_40_1) <| .ld (k := 0) (.yes rfl rfl h28) rfl rfl rfl trivial (.a (vs := [_, _, _, _, _]) rfl (.tl (.tl (.tl (.tl (.tl (.tl .hd)))))) a_38 s_38 rfl rfl) <| .callV (.yes rfl rfl h28) rfl rfl rfl rfl rfl (tonnage_ok _ _ _ _ _ _ _ _ _ ⟨_, _, rfl, hp4, hl4⟩ hz.f01) <| .py h28 (.fa rfl f_40_0) <| .ld (k := 1) (.yes rfl rfl h28) rfl rfl rfl trivial (.s rfl .hd a_3 rfl) <| .py h28 (.bin rfl rfl rfl) <| .q (.pickF rfl h28 rfl) <| .nil <| sq_n <| .cond rfl (fun h29 => ?_) (fun h29 => ?_)
                ·have kh29 := h29; (try simp only [bk] at kh29)
                 refine .seq <| .region rfl <| .z rfl rfl <| .nil <| sq_n <| .ret <| bq_r <| sq_r <| sq_r <| bq_r <| sq_r <| retQ_r (((hle3.trans hle4).trans hle7).trans hle9) (.tmp rfl .nil) rfl ?_
                 first
                  | (unfold chkE; rw [if_neg hn]; rfl)
                  | (refine congrArg (V.i .i64) ?_
                     unfold chkE
                     rw [if_pos h0, ← hz.ver]
                     unfold chkV goodE judT
                     first
                      | (rw [if_pos (by simp only [Bool.and_eq_true, decide_eq_true_eq]; exact ⟨⟨‹_›, ‹_›, ‹_›, ‹_›, ‹_›, ‹_›, ‹_›⟩, ‹_›, ‹_›, ‹_›, ‹_›, ‹_›, ‹_›, ‹_›⟩)])
                      | (refine (if_neg fun hh => ?_).symm
                         simp only [Bool.and_eq_true, decide_eq_true_eq] at hh
                         obtain ⟨⟨a1, a2, a3, a4, a5, a6, a7⟩, q1, q2, q3, q4, q5, q6, q7⟩ := hh
                         first
                          | exact absurd (show true = false from a1.symm.trans ‹_›) (by decide)
                          | exact absurd (show true = false from a2.symm.trans ‹_›) (by decide)
                          | exact absurd (show true = false from a3.symm.trans ‹_›) (by decide)
                          | exact absurd (show true = false from a4.symm.trans ‹_›) (by decide)
                          | exact absurd (show true = false from a5.symm.trans ‹_›) (by decide)
                          | exact absurd (show true = false from q1.symm.trans ‹_›) (by decide)
                          | exact absurd (show true = false from q2.symm.trans ‹_›) (by decide)
                          | exact absurd (show true = false from q3.symm.trans ‹_›) (by decide)
                          | exact absurd (show true = false from q4.symm.trans ‹_›) (by decide)
                          | exact absurd (show true = false from q5.symm.trans ‹_›) (by decide)
                          | exact absurd a6 ‹_›
                          | exact absurd a7 ‹_›
                          | exact absurd q6 ‹_›
                          | exact absurd q7 ‹_›))
                ·have kh29 := h29; (try simp only [bk] at kh29)
                 refine .skip <| bq_n <| sq_n <| .region rfl <| .q (.addL (c := 2) rfl rfl rfl (by decide)) <| .m rfl rfl <| .nil <| sq_n <| .unroll <| .seq <| .region rfl <| .b rfl rfl rfl rfl <| .nil <| sq_n <| .seq <| .condF rfl (by decide) <| .exit <| sq_e <| sq_e <| bq_x rfl <| sq_n <| .seq <| .region rfl <| .z rfl rfl <| .nil <| sq_n <| .ret <| retQ_r (((hle3.trans hle4).trans hle7).trans hle9) (.tmp rfl .nil) rfl ?_
                 first
                  | (unfold chkE; rw [if_neg hn]; rfl)
                  | (refine congrArg (V.i .i64) ?_
                     unfold chkE
                     rw [if_pos h0, ← hz.ver]
                     unfold chkV goodE judT
                     first
                      | (rw [if_pos (by simp only [Bool.and_eq_true, decide_eq_true_eq]; exact ⟨⟨‹_›, ‹_›, ‹_›, ‹_›, ‹_›, ‹_›, ‹_›⟩, ‹_›, ‹_›, ‹_›, ‹_›, ‹_›, ‹_›, ‹_›⟩)])
                      | (refine (if_neg fun hh => ?_).symm
                         simp only [Bool.and_eq_true, decide_eq_true_eq] at hh
                         obtain ⟨⟨a1, a2, a3, a4, a5, a6, a7⟩, q1, q2, q3, q4, q5, q6, q7⟩ := hh
                         first
                          | exact absurd (show true = false from a1.symm.trans ‹_›) (by decide)
                          | exact absurd (show true = false from a2.symm.trans ‹_›) (by decide)
                          | exact absurd (show true = false from a3.symm.trans ‹_›) (by decide)
                          | exact absurd (show true = false from a4.symm.trans ‹_›) (by decide)
                          | exact absurd (show true = false from a5.symm.trans ‹_›) (by decide)
                          | exact absurd (show true = false from q1.symm.trans ‹_›) (by decide)
                          | exact absurd (show true = false from q2.symm.trans ‹_›) (by decide)
                          | exact absurd (show true = false from q3.symm.trans ‹_›) (by decide)
                          | exact absurd (show true = false from q4.symm.trans ‹_›) (by decide)
                          | exact absurd (show true = false from q5.symm.trans ‹_›) (by decide)
                          | exact absurd a6 ‹_›
                          | exact absurd a7 ‹_›
                          | exact absurd q6 ‹_›
                          | exact absurd q7 ‹_›))
end Go.Proofs.YtjflgemfeofciaaGreatDoor
