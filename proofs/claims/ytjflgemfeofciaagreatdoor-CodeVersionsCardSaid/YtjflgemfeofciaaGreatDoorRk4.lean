import Derived.Test.YtjflgemfeofciaaGreatDoorCh4
/- Layer 4: what the reference asks of a code. -/
namespace Go.Proofs.YtjflgemfeofciaaGreatDoor
open Go Go.Ev
set_option linter.unusedVariables false
set_option linter.unusedSimpArgs false
set_option maxRecDepth 10000
theorem rforce_ok (c : Code) (day : Int) (cs : List V) (g : G) (h : CodeR g cs c) : Fv Tryz.prog natS (.f 102 [] []) [.agg cs, .i .i64 day] g (.i .i64 (forceI c day)) := by
  obtain ⟨v, rfl, h⟩ := h
  refine Fw.fv ?_
  have hlen := h.1
  refine Fw.enter (N := 24) (al := [(1, _), (0, _)]) Tryz.func102 (by kernel_rfl) (by kernel_rfl) rfl rfl rfl rfl ?_
  intro B
  refine .seq <| .region rfl <| .box .no rfl rfl rfl rfl fun b1 => .z rfl rfl <| .nil <| sq_n <| .seq <| .region rfl <| .z rfl rfl <| .nil <| sq_n <| .seq <| .seq <| .region rfl <| .z rfl rfl <| .nil <| sq_n <| .block <| .loopx (α := Nat × Int) [(1, _), (2, _)] _ (fun fx x => (5, .i .i64 x.2) :: (6, .i .i64 (x.1 : Int)) :: fx) (fun mx _ => mx) (fun x g' => x.1 ≤ c.vs.length ∧ fiF day (c.vs.drop x.1) x.1 x.2 = forceI c day) (fun x => c.vs.length - x.1) ((0, -1)) ⟨rfl, rfl, rfl, rfl, trivial⟩ (List.Sublist.refl _) ⟨by simp, rfl⟩ ?_
  intro x g3 hle2 hJ
  obtain ⟨hk, hg⟩ := hJ
  replace h := h.mono VersionR.mono hle2
  obtain ⟨k, out⟩ := x
  simp only at hk hg
  refine .seq <| .seq <| .region rfl <| .m rfl rfl <| .p .no rfl (.fa rfl f_24_1) <| .ld .no rfl (.s rfl .hd a_22 rfl) <| .p .no rfl (.lenR rfl rfl rfl e_22 h) <| .b rfl rfl rfl rfl <| .nil <| sq_n <| .cond rfl (fun h4 => ?_) (fun h4 => ?_)
  · have kh4 := h4; (try simp only [bk] at kh4)
    refine .skip <| sq_n <| .seq <| .block <| .seq <| .region rfl <| .p .no rfl (.fa rfl f_24_1) <| .ld .no rfl (.s rfl .hd a_22 rfl) <| .m rfl rfl <| .ixn .no rfl rfl h rfl e_22 (by omega) ?_
    intro b5 o5 cs5 y5 hy5 hq5 hr5
    obtain ⟨p5, lv5, rfl, hp5, hl5⟩ := hr5
    refine .p .no rfl (.fa rfl f_97_0) <| .ld .no rfl (.ps 0 rfl hq5 rfl a_3 rfl) <| .m rfl rfl <| .b rfl rfl rfl rfl <| .nil <| sq_n <| .cond rfl (fun h6 => ?_) (fun h6 => ?_)
    · have kh6 := h6; (try simp only [bk] at kh6)
      refine .region rfl <| .m rfl rfl <| .z rfl rfl <| .nil <| bq_n <| sq_n <| .region rfl <| .m rfl rfl <| .p .no rfl (.inc1 rfl rfl (by omega)) <| .z rfl rfl <| .nil <| loopQ_n ((k + 1, _)) ⟨rfl, rfl, rfl, rfl, trivial⟩ (List.Sublist.refl _) (Le.refl _) ?_ ?_
      · refine ⟨by simp only; omega, ?_⟩; rw [← hg, dc (k := k) (by with_reducible assumption)]; simp only [fiF]; first | rw [if_pos (by omega)] | rw [if_neg (by omega)]
      · simp only; omega
    · have kh6 := h6; (try simp only [bk] at kh6)
      refine .skip <| bq_n <| sq_n <| .region rfl <| .m rfl rfl <| .p .no rfl (.inc1 rfl rfl (by omega)) <| .z rfl rfl <| .nil <| loopQ_n ((k + 1, _)) ⟨rfl, rfl, rfl, rfl, trivial⟩ (List.Sublist.refl _) (Le.refl _) ?_ ?_
      · refine ⟨by simp only; omega, ?_⟩; rw [← hg, dc (k := k) (by with_reducible assumption)]; simp only [fiF]; first | rw [if_pos (by omega)] | rw [if_neg (by omega)]
      · simp only; omega
  · have kh4 := h4; (try simp only [bk] at kh4)
    refine .exit <| sq_e <| lq_e <| bq_x rfl <| sq_n <| .seq <| .region rfl <| .m rfl rfl <| .z rfl rfl <| .nil <| sq_n <| .ret <| retQ_r hle2 (.tmp rfl .nil) rfl ?_
    rw [← hg, dn (by omega)]; rfl
--REG r4.force V (rforce_ok _ _ _ _ {0})
end Go.Proofs.YtjflgemfeofciaaGreatDoor
