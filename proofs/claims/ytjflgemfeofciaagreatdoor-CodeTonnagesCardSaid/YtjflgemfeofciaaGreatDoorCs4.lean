import Derived.Test.YtjflgemfeofciaaGreatDoorCr4
/- Layer 4: lists of rooms. -/
namespace Go.Proofs.YtjflgemfeofciaaGreatDoor
open Go Go.Ev
set_option linter.unusedVariables false
set_option linter.unusedSimpArgs false
set_option maxRecDepth 10000
def allR (p : Nat → Bool) : Nat → Bool
  | 0 => true
  | n + 1 => allR p n && p n
theorem allR_no {p : Nat → Bool} {n k : Nat} (hk : k < n) (h : p k = false) : allR p n = false := by
  induction n with
  | zero => omega
  | succ n ih =>
    unfold allR
    by_cases e : k = n
    · subst e; rw [h, Bool.and_false]
    · rw [ih (by omega), Bool.false_and]
theorem allR_get {p : Nat → Bool} {n k : Nat} (h : allR p n = true) (hk : k < n) : p k = true := by
  cases hp : p k with
  | true => rfl
  | false => rw [allR_no hk hp] at h; cases h
/-- a room is valid and its number is above the one ahead. -/
def rgood (l : List Room) (j : Nat) : Bool := match l[j]? with
  | some r => r.ok && (decide (j = 0) || match l[j - 1]? with | some q => decide (q.id < r.id) | none => true)
  | none => true
def roomsE (l : List Room) : Int := if l.length ≤ 20 ∧ allR (rgood l) l.length = true then 0 else 40
theorem roomsE_no {l : List Room} {k : Nat} (hk : k < l.length) (h : rgood l k = false) : 40 = roomsE l := by
  unfold roomsE; rw [allR_no hk h]; simp
theorem roomE_ok (r : Room) : roomE r = 0 ↔ r.ok = true := by unfold roomE; cases r.ok <;> simp
theorem CheckRooms_ok (l : List Room) (v : V) (g : G) (h : RS RoomR 6 g v l) : Fv Tryz.prog natS (.f 17 [] []) [v] g (.i .i64 (roomsE l)) := by
  refine Fw.fv ?_
  have hlen := h.1
  refine Fw.enter (N := 34) (al := [(0, _)]) Tryz.func17 (by kernel_rfl) (by kernel_rfl) rfl rfl rfl rfl ?_
  intro B
  refine .seq <| .region rfl <| .z rfl rfl <| .nil <| sq_n <| .seq <| .seq <| .region rfl <| .m rfl rfl <| .q (.lenR rfl rfl rfl e_25 h) <| .b rfl rfl rfl rfl <| .nil <| sq_n <| .cond rfl (fun h1 => ?_) (fun h1 => ?_)
  ·have kh1 := h1; (try simp only [bk] at kh1)
   refine .seq <| .region rfl <| .z rfl rfl <| .nil <| sq_n <| .ret <| sq_r <| retQ_r (Le.refl _) (.tmp rfl .nil) rfl ?_
   first
    | (refine congrArg (V.i .i64) ?_; unfold roomsE; rw [if_neg (by omega)]; done)
    | (refine congrArg (V.i .i64) (roomsE_no (k := k) (by omega) ?_); simp_all [rgood, roomE_ok]; done)
    | (refine congrArg (V.i .i64) (roomsE_no (k := k) (by omega) ?_); simp_all [rgood, roomE_ok]; omega)
    | (refine congrArg (V.i .i64) ?_; unfold roomsE; obtain rfl : k = l.length := by omega
       rw [if_pos ⟨hl, hg⟩])
  ·have kh1 := h1; (try simp only [bk] at kh1)
   refine .skip <| sq_n <| .seq <| .seq <| .region rfl <| .m rfl rfl <| .q (.lenR rfl rfl rfl e_25 h) <| .m rfl rfl <| .nil <| sq_n <| .block <| .loopx (α := Nat) [(0, _), (8, _), (9, _)] _ (fun fx k => (10, .i .i64 (k : Int)) :: fx) (fun mx _ => mx) (fun k g' => k ≤ l.length ∧ l.length ≤ 20 ∧ allR (rgood l) k = true ∧ RS RoomR 6 g' v l) (fun k => l.length - k) (0) ⟨rfl, rfl, rfl, rfl, trivial⟩ (List.Sublist.refl _) ⟨by omega, by omega, rfl, h⟩ ?_
   intro k g3 hle2 hJ
   obtain ⟨hk, hl, hg, h⟩ := hJ
   refine .seq <| .region rfl <| .b rfl rfl rfl rfl <| .nil <| sq_n <| .seq <| .cond rfl (fun h4 => ?_) (fun h4 => ?_)
   ·have kh4 := h4; (try simp only [bk] at kh4)
    refine .skip <| sq_n <| .seq <| .block <| .seq <| .region rfl <| .m rfl rfl <| .ixn .no rfl rfl h rfl e_25 (by omega) ?_
    intro b5 o5 cs5 y5 hy5 hq5 hr5
    obtain rfl := hr5
    refine .w (.pa 0 (vs := [_, _, _, _, _, _]) rfl hq5 rfl a_29 s_29 rfl rfl) <| .alloc .no rfl z_29 fun b6 => .z rfl rfl <| .st (cs' := [_, _, _, _, _, _]) .no rfl rfl rfl rfl s_29 rfl rfl .hd rfl rfl <| .nil <| sq_n <| .seq <| .draw (tb := [r1 0 0, r1 1 0, r1 3 1, r1 7 1, r1 15 1, r1 31 1, r1 63 1, r0 127 1, r0 127 1, r0 383 1, r0 1023 1, r0 2047 1, r0 4095 1, r0 127 1, r0 8319 1, r1 32767 1, r1 65535 1, r1 131071 1]) rfl (by kernel_rfl) (by kernel_rfl) ?_
    refine .y rfl rfl rfl (.a (vs := [_, _, _, _, _, _]) rfl .hd a_29 s_29 rfl rfl) <| .callV .no rfl rfl rfl rfl rfl (CheckRoom_ok _ _) <| .b rfl rfl rfl rfl <| .m rfl rfl <| .split (t := 18) rfl (fun h7 => ?_) (fun h7 => ?_)
    ·have kh7 := h7; (try simp only [bk] at kh7)
     refine .k h7 <| .k h7 <| .k h7 <| .ku <| .ku <| .ku <| .ku <| .ku <| .ku <| .ku <| .ku <| .ku <| .k h7 <| .q (.pickT rfl h7 rfl) <| .nil <| sq_n <| .condT rfl rfl <| .seq <| .region rfl <| .z rfl rfl <| .nil <| sq_n <| .ret <| bq_r <| sq_r <| lq_r <| bq_r <| sq_r <| retQ_r hle2 (.tmp rfl .nil) rfl ?_
     first
      | (refine congrArg (V.i .i64) ?_; unfold roomsE; rw [if_neg (by omega)]; done)
      | (refine congrArg (V.i .i64) (roomsE_no (k := k) (by omega) ?_); simp_all [rgood, roomE_ok]; done)
      | (refine congrArg (V.i .i64) (roomsE_no (k := k) (by omega) ?_); simp_all [rgood, roomE_ok]; omega)
      | (refine congrArg (V.i .i64) ?_; unfold roomsE; obtain rfl : k = l.length := by omega
         rw [if_pos ⟨hl, hg⟩])
    ·have kh7 := h7; (try simp only [bk] at kh7)
     refine .py h7 (.move rfl) <| .py h7 (.bin rfl rfl rfl) <| .py h7 (.move rfl) <| .split (t := 21) rfl (fun h8 => ?_) (fun h8 => ?_)
     ·have kh8 := h8; (try simp only [bk] at kh8)
      refine .py h8 (.move rfl) <| .py h8 (.move rfl) <| .py h8 (.sub rfl rfl (by omega)) <| .ixi (.yes rfl rfl h8) rfl rfl h rfl e_25 (by omega) ?_
      intro b9 o9 cs9 y9 hy9 hq9 hr9
      obtain rfl := hr9
      refine .py h8 (.fa rfl f_29_0) <| .ld (k := 0) (.yes rfl rfl h8) rfl rfl rfl trivial (.ps 0 rfl hq9 rfl a_3 rfl) <| .py h8 (.fa rfl f_29_0) <| .ld (k := 0) (.yes rfl rfl h8) rfl rfl rfl trivial (.s rfl .hd a_3 rfl) <| .py h8 (.bin rfl rfl rfl) <| .py h7 (.pickT rfl h8 rfl) <| .q (.pickF rfl h7 rfl) <| .nil <| sq_n <| .cond rfl (fun h10 => ?_) (fun h10 => ?_)
      ·have kh10 := h10; (try simp only [bk] at kh10)
       refine .seq <| .region rfl <| .z rfl rfl <| .nil <| sq_n <| .ret <| bq_r <| sq_r <| lq_r <| bq_r <| sq_r <| retQ_r hle2 (.tmp rfl .nil) rfl ?_
       first
        | (refine congrArg (V.i .i64) ?_; unfold roomsE; rw [if_neg (by omega)]; done)
        | (refine congrArg (V.i .i64) (roomsE_no (k := k) (by omega) ?_); simp_all [rgood, roomE_ok]; done)
        | (refine congrArg (V.i .i64) (roomsE_no (k := k) (by omega) ?_); simp_all [rgood, roomE_ok]; omega)
        | (refine congrArg (V.i .i64) ?_; unfold roomsE; obtain rfl : k = l.length := by omega
           rw [if_pos ⟨hl, hg⟩])
      ·have kh10 := h10; (try simp only [bk] at kh10)
       refine .skip <| bq_n <| sq_n <| .region rfl <| .q (.inc1 rfl rfl (by omega)) <| .m rfl rfl <| .nil <| loopQ_n (k + 1) ⟨rfl, rfl, rfl, rfl, trivial⟩ (.cons _ (List.Sublist.refl _)) (Le.refl _) ?_ ?_
       ·refine ⟨by omega, by omega, ?_, h⟩
        have e : rgood l k = true := by simp_all [rgood, roomE_ok]; try omega
        simp only [allR, hg, e, Bool.and_self]
       ·omega
     ·have kh8 := h8; (try simp only [bk] at kh8)
      refine .k h8 <| .k h8 <| .k h8 <| .k h8 <| .k h8 <| .k h8 <| .k h8 <| .k h8 <| .k h8 <| .py h7 (.pickF rfl h8 rfl) <| .q (.pickF rfl h7 rfl) <| .nil <| sq_n <| .condF rfl rfl <| .skip <| bq_n <| sq_n <| .region rfl <| .q (.inc1 rfl rfl (by omega)) <| .m rfl rfl <| .nil <| loopQ_n (k + 1) ⟨rfl, rfl, rfl, rfl, trivial⟩ (.cons _ (List.Sublist.refl _)) (Le.refl _) ?_ ?_
      ·refine ⟨by omega, by omega, ?_, h⟩
       have e : rgood l k = true := by simp_all [rgood, roomE_ok]; try omega
       simp only [allR, hg, e, Bool.and_self]
      ·omega
   ·have kh4 := h4; (try simp only [bk] at kh4)
    refine .exit <| sq_e <| lq_e <| bq_x rfl <| sq_n <| .seq <| .region rfl <| .z rfl rfl <| .nil <| sq_n <| .ret <| retQ_r hle2 (.tmp rfl .nil) rfl ?_
    first
     | (refine congrArg (V.i .i64) ?_; unfold roomsE; rw [if_neg (by omega)]; done)
     | (refine congrArg (V.i .i64) (roomsE_no (k := k) (by omega) ?_); simp_all [rgood, roomE_ok]; done)
     | (refine congrArg (V.i .i64) (roomsE_no (k := k) (by omega) ?_); simp_all [rgood, roomE_ok]; omega)
     | (refine congrArg (V.i .i64) ?_; unfold roomsE; obtain rfl : k = l.length := by omega
        rw [if_pos ⟨hl, hg⟩])
--REG c.CheckRooms V (CheckRooms_ok _ _ _ {0})
end Go.Proofs.YtjflgemfeofciaaGreatDoor
