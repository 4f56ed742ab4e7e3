import Derived.Test.YtjflgemfeofciaaGreatDoorVs4
import Derived.Test.YtjflgemfeofciaaGreatDoorMX3
/- Layer 4: the world that numbers describe. -/
namespace Go.Proofs.YtjflgemfeofciaaGreatDoor
open Go Go.Ev
set_option linter.unusedVariables false
set_option linter.unusedSimpArgs false
set_option maxRecDepth 10000
def Arr4R (g : G) (cs : List V) (x : Nat → Int) : Prop := cs = [.i .i64 (x 0), .i .i64 (x 1), .i .i64 (x 2), .i .i64 (x 3)]
theorem Arr4R.mono : ∀ g g' cs x, Le g g' → Arr4R g cs x → Arr4R g' cs x := fun _ _ _ _ _ h => h
theorem Arr4R.one {g : G} {cs : List V} {x : Nat → Int} (h : Arr4R g cs x) : allOne cs = true := by rw [h]; rfl
def Arr5R (g : G) (cs : List V) (x : Nat → Int) : Prop := cs = [.i .i64 (x 0), .i .i64 (x 1), .i .i64 (x 2), .i .i64 (x 3), .i .i64 (x 4)]
theorem Arr5R.mono : ∀ g g' cs x, Le g g' → Arr5R g cs x → Arr5R g' cs x := fun _ _ _ _ _ h => h
theorem Arr5R.one {g : G} {cs : List V} {x : Nat → Int} (h : Arr5R g cs x) : allOne cs = true := by rw [h]; rfl
structure T_Raw where
  From : Int
  Puts : (List (Nat → Int))
  Pieces : (List (Nat → Int))
def R_Raw (g : G) (cs : List V) (x : T_Raw) : Prop := ∃ v1 v2, cs = [.i .i64 (x.From), v1, v2] ∧ RS Arr4R 4 g v1 (x.Puts) ∧ RS Arr5R 5 g v2 (x.Pieces)
theorem R_Raw.one {g : G} {cs : List V} {x : T_Raw} (h : R_Raw g cs x) : allOne cs = true := by
  obtain ⟨v1, v2, rfl, h1, h2⟩ := h
  exact (allOne_cons rfl (allOne_cons h1.one (allOne_cons h2.one rfl)))
theorem R_Raw.mono : ∀ g g' cs x, Le g g' → R_Raw g cs x → R_Raw g' cs x := fun _ _ _ _ hl ⟨v1, v2, h, h1, h2⟩ => ⟨v1, v2, h, h1.mono Arr4R.mono hl, h2.mono Arr5R.mono hl⟩
structure T_Some where
  Day : Int
  Formula : Int
  Rooms : (List (Nat → Int))
def R_Some (g : G) (cs : List V) (x : T_Some) : Prop := ∃ v2, cs = [.i .i64 (x.Day), .i .i64 (x.Formula), v2] ∧ RS Arr5R 5 g v2 (x.Rooms)
theorem R_Some.one {g : G} {cs : List V} {x : T_Some} (h : R_Some g cs x) : allOne cs = true := by
  obtain ⟨v2, rfl, h2⟩ := h
  exact (allOne_cons rfl (allOne_cons rfl (allOne_cons h2.one rfl)))
theorem R_Some.mono : ∀ g g' cs x, Le g g' → R_Some g cs x → R_Some g' cs x := fun _ _ _ _ hl ⟨v2, h, h2⟩ => ⟨v2, h, h2.mono Arr5R.mono hl⟩
def F_r01_Mod (p0 : Int) (p1 : Int) : Option (Int) := (ck (!(decide (p1 = 0))) ((ck (!(decide (p1 = 0))) (some (Int.tmod (wr ((Int.tmod p0 p1) + p1)) p1)))))
set_option maxHeartbeats 1000000 in
theorem F_r01_Mod_ok (p0 : Int) (p1 : Int) (g : G) (r : Int) (hF : F_r01_Mod p0 p1 = some r) : Fv Tryz.prog natS (.f 46 [] []) [.i .i64 p0, .i .i64 p1] g (.i .i64 r) := by
  refine Fw.fv ?_
  unfold F_r01_Mod at hF
  refine Fw.enter (N := 12) (al := [(1, _), (0, _)]) Tryz.func46 (by kernel_rfl) (by kernel_rfl) rfl rfl rfl rfl ?_
  intro B
  refine .seq <| .region rfl <| .z rfl rfl <| .nil <| sq_n <| .seq <| .region rfl <| .m rfl rfl <| .m rfl rfl ?_
  obtain ⟨hd1, hF⟩ := ckS hF
  refine .p .no rfl (.bin rfl rfl (iop_rem hd1)) <| .m rfl rfl <| .b rfl rfl rfl rfl <| .m rfl rfl ?_
  obtain ⟨hd2, hF⟩ := ckS hF
  refine .p .no rfl (.bin rfl rfl (iop_rem hd2)) <| .z rfl rfl <| .nil <| sq_n <| .ret ?_
  obtain rfl := sI hF
  refine retQ_r (Le.refl _) (.tmp rfl .nil) rfl ?_
  rfl
structure L_r04_Rooms_1 where
  v1_2 : V
  cs1_3 : List V
  d1_1 : List Room
  z1_5 : Int
  k1_6 : Nat
def F_r04_Rooms_l1 : List (Nat → Int) → List Room → Int → Nat → Option ((List Room))
  | [], d1_1, z1_5, k1_6 => some (d1_1)
  | y1 :: ys1, d1_1, z1_5, k1_6 => (cond (decide ((k1_6 : Int) < 8)) (((F_r01_Mod (y1 0) 5).bind fun q6 => ((F_r01_Mod (y1 1) 1500).bind fun q7 => ((F_r01_Mod (y1 2) 7).bind fun q8 => ((F_r01_Mod (y1 3) 9).bind fun q9 => ((F_r01_Mod (wr (Int.tdiv (y1 3) 9)) 9).bind fun q10 => ((F_r01_Mod (y1 4) 700).bind fun q11 => (ck (decide (d1_1.length + 1 ≤ 1000000)) (F_r04_Rooms_l1 ys1 (d1_1 ++ [(Room.mk (wr (z1_5 + (wr ((1 : Int) + q6)))) (wr ((1 : Int) + q8)) q9 q10 q7 (wr (q7 + q11)))]) (wr (z1_5 + (wr ((1 : Int) + q6)))) (k1_6 + 1)))))))))) (some (d1_1)))
def F_r04_Rooms (p0 : (List (Nat → Int))) : Option ((List Room)) := ((F_r04_Rooms_l1 p0 [] 0 0).bind fun o1_0_1 => some o1_0_1)
set_option maxHeartbeats 1000000 in
theorem F_r04_Rooms_ok (p0 : (List (Nat → Int))) (v0_0 : V) (g : G) (h0_0 : RS Arr5R 5 g v0_0 p0) (r : (List Room)) (hF : F_r04_Rooms p0 = some r) : Fw Tryz.prog natS (.f 99 [] []) [v0_0] g [] fun g' ml' q => ml' = [] ∧ ∃ (w0_0 : V), q = (w0_0) ∧ RS RoomR 6 g' w0_0 r := by
  refine Fw.drop ?_
  unfold F_r04_Rooms at hF
  have lh0_0 := h0_0.1
  refine Fw.enter (N := 55) (al := [(0, _)]) Tryz.func99 (by kernel_rfl) (by kernel_rfl) rfl rfl rfl rfl ?_
  intro B
  refine .seq <| .region rfl <| .z rfl rfl <| .nil <| sq_n <| .seq <| .region rfl <| .z rfl rfl <| .nil <| sq_n <| .seq <| .region rfl <| .z rfl rfl <| .nil <| sq_n <| .seq <| .seq <| .region rfl <| .z rfl rfl <| .nil <| sq_n <| .block <| .acc 6 29 ?_
  obtain ⟨o1, hF, hG1⟩ := bS hF
  refine .loopx (α := L_r04_Rooms_1) [(0, _)] [] (fun fx x => (3, x.v1_2) :: (4, .i .i64 x.z1_5) :: (5, .i .i64 (x.k1_6 : Int)) :: fx) (fun mx x => [.acc x.v1_2 6 x.cs1_3 29]) (fun x g' => AccR RoomR 6 g' x.v1_2 x.cs1_3 x.d1_1 ∧ x.k1_6 ≤ p0.length ∧ F_r04_Rooms_l1 (p0.drop x.k1_6) x.d1_1 x.z1_5 x.k1_6 = some o1) (fun x => p0.length - x.k1_6) (L_r04_Rooms_1.mk _ _ [] 0 0) ⟨rfl, rfl, rfl, rfl, trivial⟩ (List.Sublist.refl _) ⟨AccR.nil, (by first | omega | (dsimp only; omega)), hF⟩ ?_
  intro x1 gl1 hlo1 hJ1
  obtain ⟨v1_2, cs1_3, d1_1, z1_5, k1_6⟩ := x1
  try dsimp only at hJ1
  obtain ⟨ha1_4, hk1, hF⟩ := hJ1
  refine .al0 [(3, v1_2), (4, .i .i64 z1_5), (5, .i .i64 (k1_6 : Int)), (0, _)] ?_
  replace h0_0 := h0_0.mono Arr5R.mono hlo1
  have lha1_4 := ha1_4.le
  refine .seq <| .seq <| .region rfl <| .m rfl rfl <| .m rfl rfl <| .p .no rfl (.lenR rfl rfl rfl e_73 h0_0) <| .b rfl rfl rfl rfl <| .m rfl rfl <| .split (t := 12) rfl (fun h2 => ?_) (fun h2 => ?_)
  ·have kh2 := dT h2
   obtain ⟨y1, hy1⟩ := getK (l := p0) (k := k1_6) kh2
   rw [dc hy1, F_r04_Rooms_l1] at hF
   refine .p (.yes rfl rfl h2) rfl (.move rfl) <| .p (.yes rfl rfl h2) rfl (.bin rfl rfl rfl) <| .p .no rfl (.pickT rfl h2 rfl) <| .nil <| sq_n <| .cond rfl (fun h3 => ?_) (fun h3 => ?_)
   ·have kh3 := dT h3
    have hF := cT h3 hF
    refine .skip <| sq_n <| .seq <| .block <| .seq <| .region rfl <| .m rfl rfl <| .m rfl rfl <| .ixk (j := k1_6) .no rfl rfl h0_0 rfl e_73 hy1 ?_
    rintro b4 o4 _ hq4 rfl
    refine .ld .no rfl (.pa 0 (vs := [_, _, _, _, _]) rfl hq4 rfl a_38 s_38 rfl rfl) <| .alloc .no rfl z_38 fun b5 => .st (cs' := [_, _, _, _, _]) .no rfl rfl rfl rfl s_38 rfl rfl .hd rfl rfl <| .nil <| sq_n <| .seq <| .region rfl <| .m rfl rfl <| .p .no rfl (.ixa (j := 0) rfl rfl ae_38 (by decide)) <| .ld .no rfl (.s rfl .hd a_3 rfl) ?_
    obtain ⟨q6, hq6, hF⟩ := bS hF
    refine .callV .no rfl rfl rfl (F_r01_Mod_ok (y1 0) 5 _ _ hq6) <| .b rfl rfl rfl rfl <| .b rfl rfl rfl rfl <| .z rfl rfl <| .nil <| sq_n <| .seq <| .region rfl <| .p .no rfl (.ixa (j := 1) rfl rfl ae_38 (by decide)) <| .ld .no rfl (.s rfl .hd a_3 rfl) ?_
    obtain ⟨q7, hq7, hF⟩ := bS hF
    refine .callV .no rfl rfl rfl (F_r01_Mod_ok (y1 1) 1500 _ _ hq7) <| .z rfl rfl <| .nil <| sq_n <| .draw (tb := [r0 0 0, r0 0 0, r0 0 0, r0 4 0, r0 12 0, r0 28 1, r0 0 0, r0 64 0, r0 220 1, r0 0 0, r0 512 0, r0 1536 0, r0 4060 2, r0 0 0, r0 0 0, r0 0 0, r0 32768 0, r1 106460 3, r1 253916 4, r1 524252 4, r1 1048574 4, r1 2097150 4, r1 4194303 4, r1 8388607 5]) rfl (by kernel_rfl) (by kernel_rfl) ?_
    refine .m rfl rfl <| .m rfl rfl <| .p .no rfl (.ixa (j := 2) rfl rfl ae_38 (by decide)) rfl rfl rfl <| .y rfl rfl rfl (.s rfl .hd a_3 rfl) ?_
    obtain ⟨q8, hq8, hF⟩ := bS hF
    refine .callV .no rfl rfl rfl rfl rfl (F_r01_Mod_ok (y1 2) 7 _ _ hq8) <| .b rfl rfl rfl rfl <| .p .no rfl (.ixa (j := 3) rfl rfl ae_38 (by decide)) rfl rfl rfl <| .ld (k := 1) .no rfl rfl rfl trivial (.s rfl .hd a_3 rfl) ?_
    obtain ⟨q9, hq9, hF⟩ := bS hF
    refine .callV .no rfl rfl rfl rfl rfl (F_r01_Mod_ok (y1 3) 9 _ _ hq9) <| .p .no rfl (.ixa (j := 3) rfl rfl ae_38 (by decide)) rfl rfl rfl <| .ld (k := 2) .no rfl rfl rfl trivial (.s rfl .hd a_3 rfl) <| .b rfl rfl rfl rfl ?_
    obtain ⟨q10, hq10, hF⟩ := bS hF
    refine .callV .no rfl rfl rfl rfl rfl (F_r01_Mod_ok (wr (Int.tdiv (y1 3) 9)) 9 _ _ hq10) <| .m rfl rfl <| .m rfl rfl <| .p .no rfl (.ixa (j := 4) rfl rfl ae_38 (by decide)) rfl rfl rfl <| .ld (k := 3) .no rfl rfl rfl trivial (.s rfl .hd a_3 rfl) ?_
    obtain ⟨q11, hq11, hF⟩ := bS hF
    refine .callV .no rfl rfl rfl rfl rfl (F_r01_Mod_ok (y1 4) 700 _ _ hq11) <| .b rfl rfl rfl rfl <| .p .no rfl (.build (qs := [(0, _), (1, _)]) (cs := [_, _]) rfl b_27 rfl) rfl rfl rfl <| .p .no rfl (.build (qs := [(0, _), (1, _), (2, _), (3, _), (4, _)]) (cs := [_, _, _, _, _, _]) rfl b_29 rfl) rfl rfl rfl <| .f .no rfl (.bs (qs := [(0, _)]) (c := [_, _, _, _, _, _]) rfl sl_25 el_29 (by decide) rfl) fun b12 => ?_
    obtain ⟨hl13, hF⟩ := ckS hF
    have hl13 := of_decide_eq_true hl13
    refine .ne (.tl .hd) .hd fun hn13_b5 => .x .no rfl rfl (pinF_t rfl pinF_n) (restA_t rfl restA_n) (mo_app rfl) (fun _ _ => .all (allA_c rfl (allA_c rfl (allA_c rfl (allA_c rfl rfl))))) (.appA (m := 1) (new := [_, _, _, _, _, _]) rfl rfl rfl (.tl (.tl .hd)) sl_25 el_29 (.of rfl .sl sl_25 .hd (Nat.le_of_ble_eq_true rfl) rfl) (by decide) rfl (AccR.room (R := RoomR) (ys := [(Room.mk (wr (z1_5 + (wr ((1 : Int) + q6)))) (wr ((1 : Int) + q8)) q9 q10 q7 (wr (q7 + q11)))]) ha1_4 (Ls.cons (c := [_, _, _, _, _, _]) rfl rfl .nil) hl13) rfl) fun v13 => .as (.tl (.tl .hd)) fun av13 => ?_
    have ha13 := AccR.app (R := RoomR) (g := gl1) (ys := [(Room.mk (wr (z1_5 + (wr ((1 : Int) + q6)))) (wr ((1 : Int) + q8)) q9 q10 q7 (wr (q7 + q11)))]) ha1_4 (Ls.cons (c := [_, _, _, _, _, _]) rfl rfl .nil) hl13 av13
    have lha13 := ha13.le
    refine .z rfl rfl <| .nil <| bq_n <| sq_n <| .region rfl <| .m rfl rfl <| .p .no rfl (.inc1 rfl rfl (by omega)) <| .z rfl rfl <| .nil <| loopQ_n (L_r04_Rooms_1.mk _ _ (d1_1 ++ [(Room.mk (wr (z1_5 + (wr ((1 : Int) + q6)))) (wr ((1 : Int) + q8)) q9 q10 q7 (wr (q7 + q11)))]) (wr (z1_5 + (wr ((1 : Int) + q6)))) (k1_6 + 1)) ⟨rfl, rfl, rfl, rfl, trivial⟩ (.cons _ (.cons _ (List.Sublist.refl _))) (Le.refl _) ?_ ?_
    ·exact ⟨ha13, (atN_lt hy1), hF⟩
    ·simp only; omega
   ·have kh3 := dF h3
    have hF := cF h3 hF
    obtain rfl := sI hF
    have hF := hG1
    refine .exit <| sq_e <| lq_e <| bq_x rfl <| sq_n <| .seq <| .region rfl <| .m rfl rfl <| .z rfl rfl <| .nil <| sq_n <| .see (seeFreeze RoomR.mono .hd (by decide) ha1_4) ?_
    rintro gz14 ⟨hle14, hz14⟩
    replace ha1_4 := ha1_4.mono RoomR.mono hle14
    refine .ret ?_
    obtain rfl := sI hF
    refine retQ_r (hlo1.trans hle14) (.tmp rfl .nil) rfl ?_
    exact ⟨_, rfl, hz14⟩
  ·have kh2 := dF h2
   rw [dn (by omega), F_r04_Rooms_l1] at hF
   refine .skip (.yes rfl rfl h2) rfl <| .skip (.yes rfl rfl h2) rfl <| .p .no rfl (.pickF rfl h2 rfl) <| .nil <| sq_n <| .condF rfl rfl ?_
   obtain rfl := sI hF
   have hF := hG1
   refine .exit <| sq_e <| lq_e <| bq_x rfl <| sq_n <| .seq <| .region rfl <| .m rfl rfl <| .z rfl rfl <| .nil <| sq_n <| .see (seeFreeze RoomR.mono .hd (by decide) ha1_4) ?_
   rintro gz15 ⟨hle15, hz15⟩
   refine .ret ?_
   obtain rfl := sI hF
   refine retQ_r (hlo1.trans hle15) (.tmp rfl .nil) rfl ?_
   exact ⟨_, rfl, hz15⟩
end Go.Proofs.YtjflgemfeofciaaGreatDoor
