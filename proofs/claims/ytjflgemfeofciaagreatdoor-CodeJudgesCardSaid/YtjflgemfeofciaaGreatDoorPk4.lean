import Derived.Test.YtjflgemfeofciaaGreatDoorPj4
/- Layer 4: CodeJudges holds. -/
namespace Go.Proofs.YtjflgemfeofciaaGreatDoor
open Go Go.Ev
set_option linter.unusedVariables false
set_option linter.unusedSimpArgs false
theorem endE_rooms {c : Code} {day f : Int} {l : List Room} (h : endE c day f l = 0) : roomsE l = 0 := by
  unfold endE withE at h
  obtain ⟨_, b⟩ := failE_zero (by decide) h
  by_cases e0 : roomsE l = 0
  · exact e0
  · rw [decide_eq_false e0] at b; cases b
theorem endE_ver {c : Code} {day f : Int} {l : List Room} (h : endE c day f l = 0) : atI c.vs (forceI c day) = some (verF c day) := by
  unfold endE withE at h
  obtain ⟨a, _⟩ := failE_zero (by decide) h
  obtain ⟨_, _, i1, i2⟩ := onE_zero a
  unfold atI verF
  rw [if_pos i1, List.getD_eq_getElem?_getD, List.getElem?_eq_getElem (by omega)]; rfl
theorem plan_eq {c : Code} {day f : Int} {l : List Room} (h : endE c day f l = 0) (n : Int) : F_r04_plan (verF c day) n l = some (planD (verF c day) n l) := by
  have hz := endE_zero h
  unfold F_r04_plan
  rw [decide_eq_true hz.len, hz.puts]; rfl
/-- the litres of the groups. -/
def litA (v : Version) (l : List Room) : Nat → Int × Int := arr [(litI v Room.lo 1 l, litI v Room.hi 1 l), (litI v Room.lo 2 l, litI v Room.hi 2 l), (litI v Room.lo 3 l, litI v Room.hi 3 l), (litI v Room.lo 4 l, litI v Room.hi 4 l), (litI v Room.lo 5 l, litI v Room.hi 5 l)] (litI v Room.lo 1 l, litI v Room.hi 1 l)
theorem litres_eq (v : Version) (n : Int) (l : List Room) : F_r04_litres (planD v n l) = some (litA v l) := rfl
theorem litA_in {v : Version} {l : List Room} (h : roomsE l = 0) : ∀ i, 0 ≤ (litA v l i).1 ∧ (litA v l i).1 ≤ (litA v l i).2 := by
  have k : ∀ i, 0 ≤ litI v Room.lo i l ∧ litI v Room.lo i l ≤ litI v Room.hi i l := fun i => ⟨(lit_in h).1, (lit_in h).2.1⟩
  intro i
  match i with
  | 0 => exact k 1
  | 1 => exact k 2
  | 2 => exact k 3
  | 3 => exact k 4
  | 4 => exact k 5
  | n + 5 => exact k 1
theorem fend_eq {c : Code} {day f : Int} {l : List Room} (h : endE c day f l = 0) (high : Bool) : ∃ e, F_r04_end (verF c day) f (litA (verF c day) l) high = some e ∧ (∀ i, i < 5 → e.Litres i = (endD (selB high) c day f l).Litres i) ∧ e.Tonnage = (endD (selB high) c day f l).Tonnage := by
  have hz := endE_zero h
  obtain ⟨e, h1, h2, h3⟩ := end_eq hz.f01 hz.lines (litA_in (v := verF c day) (endE_rooms h)) high
  refine ⟨e, h1, fun i hi => ?_, ?_⟩
  · rw [h2 i hi]
    unfold endD
    rw [if_pos h]
    match i, hi with
    | 0, _ => rfl
    | 1, _ => rfl
    | 2, _ => rfl
    | 3, _ => rfl
    | 4, _ => rfl
  · rw [h3]
    unfold endD
    rw [if_pos h]; rfl
theorem fjudge_eq {c : Code} {day f : Int} {l : List Room} (h : endE c day f l = 0) : F_r04_judge (verF c day) f l = some ((endD Prod.fst c day f l).Tonnage, (endD Prod.snd c day f l).Tonnage) := by
  obtain ⟨e1, a1, _, a3⟩ := fend_eq h false
  obtain ⟨e2, b1, _, b3⟩ := fend_eq h true
  unfold F_r04_judge
  simp only [plan_eq h, Option.bind_some, litres_eq, a1, b1, a3, b3]
  rfl
theorem askI_eq {c : Code} {day f : Int} {l : List Room} (h : endE c day f l = 0) : askI c day f l = forceI c day := if_pos h
theorem rJudge_eq (c : Code) (day f : Int) (l : List Room) : F_r04_Judge c day f l = F_code_Judge c day f l := by
  unfold F_r04_Judge F_code_Judge
  by_cases h : endE c day f l = 0
  · rw [h, askI_eq h, endE_ver h]
    simp only [decide_true, Bool.not_true, cond_false, Option.bind_some, fjudge_eq h]
  · rw [decide_eq_false h]
    simp only [Bool.not_false, cond_true]
    have hd : ∀ sel, endD sel c day f l = ⟨0, fun _ => 0⟩ := fun sel => if_neg h
    rw [hd, hd]
theorem rEnds_eq (c : Code) (day f : Int) (l : List Room) : ∃ a b, F_r04_Ends c day f l = some (a, b, endE c day f l) ∧ (∀ i, i < 5 → a.Litres i = (endD Prod.fst c day f l).Litres i) ∧ a.Tonnage = (endD Prod.fst c day f l).Tonnage ∧ (∀ i, i < 5 → b.Litres i = (endD Prod.snd c day f l).Litres i) ∧ b.Tonnage = (endD Prod.snd c day f l).Tonnage := by
  unfold F_r04_Ends
  by_cases h : endE c day f l = 0
  · obtain ⟨e1, a1, a2, a3⟩ := fend_eq h false
    obtain ⟨e2, b1, b2, b3⟩ := fend_eq h true
    refine ⟨e1, e2, ?_, a2, a3, b2, b3⟩
    rw [h, askI_eq h, endE_ver h]
    simp only [decide_true, Bool.not_true, cond_false, Option.bind_some, plan_eq h, litres_eq, a1, b1]
  · have hd : ∀ sel, endD sel c day f l = ⟨0, fun _ => 0⟩ := fun sel => if_neg h
    rw [decide_eq_false h, hd, hd]
    simp only [Bool.not_false, cond_true]
    refine ⟨_, _, rfl, fun i hi => ?_, rfl, fun i hi => ?_, rfl⟩ <;>
    · match i, hi with
      | 0, _ => rfl
      | 1, _ => rfl
      | 2, _ => rfl
      | 3, _ => rfl
      | 4, _ => rfl
theorem ton_eq {c : Code} {day f : Int} {l : List Room} (h : endE c day f l = 0) (x : Nat → Int) (hx : ∀ i, i < 5 → within (x i) (litA (verF c day) l i).1 (litA (verF c day) l i).2 = true) : F_r04_tonnage (verF c day) f x = some (downI (tonS closV (verF c day) f.toNat (x 0) (x 1) (x 2) (x 3) (x 4))) := by
  have hz := endE_zero h
  rw [tonnage_eq _ _ _ hz.f01]
  have hc : ∀ k i, k < 10 → i < 5 → refV ((verF c day).ln k) (x i) = closV ((verF c day).ln k) (x i) := fun k i hk hi => by
    have h1 := hx i hi
    have h2 := litA_in (v := verF c day) (endE_rooms h) i
    unfold within at h1
    simp only [Bool.and_eq_true, decide_eq_true_eq] at h1
    exact (clos_ref (hz.lines k hk) (by omega)).symm
  rcases hz.f01 with rfl | rfl
  · rw [tonS_congr (hc 0 0 (by decide) (by decide)) (hc 1 1 (by decide) (by decide)) (hc 2 2 (by decide) (by decide)) (hc 3 3 (by decide) (by decide)) (hc 4 4 (by decide) (by decide))]
  · rw [tonS_congr (hc 5 0 (by decide) (by decide)) (hc 6 1 (by decide) (by decide)) (hc 7 2 (by decide) (by decide)) (hc 8 3 (by decide) (by decide)) (hc 9 4 (by decide) (by decide))]
def inR (x : Nat → Int) (A : Nat → Int × Int) : Bool := within (x 0) (A 0).1 (A 0).2 && (within (x 1) (A 1).1 (A 1).2 && (within (x 2) (A 2).1 (A 2).2 && (within (x 3) (A 3).1 (A 3).2 && within (x 4) (A 4).1 (A 4).2)))
def tonC (c : Code) (day f : Int) (x : Nat → Int) : Int := downI (tonS closV (verF c day) f.toNat (x 0) (x 1) (x 2) (x 3) (x 4))
theorem chain_eq {c : Code} {day f : Int} {l : List Room} (h : endE c day f l = 0) {x : Nat → Int} {t : Int} {K : Option Int} : (bif !within (x 0) (litA (verF c day) l 0).1 (litA (verF c day) l 0).2 then some 47 else bif !within (x 1) (litA (verF c day) l 1).1 (litA (verF c day) l 1).2 then some 47 else bif !within (x 2) (litA (verF c day) l 2).1 (litA (verF c day) l 2).2 then some 47 else bif !within (x 3) (litA (verF c day) l 3).1 (litA (verF c day) l 3).2 then some 47 else bif !within (x 4) (litA (verF c day) l 4).1 (litA (verF c day) l 4).2 then some 47 else (F_r04_tonnage (verF c day) f x).bind fun q => bif !decide (t = q) then some 47 else K) = bif inR x (litA (verF c day) l) && decide (t = tonC c day f x) then K else some 47 := by
  unfold inR
  cases h0 : within (x 0) (litA (verF c day) l 0).1 (litA (verF c day) l 0).2 with
  | false => rfl
  | true => cases h1 : within (x 1) (litA (verF c day) l 1).1 (litA (verF c day) l 1).2 with
    | false => rfl
    | true => cases h2 : within (x 2) (litA (verF c day) l 2).1 (litA (verF c day) l 2).2 with
      | false => rfl
      | true => cases h3 : within (x 3) (litA (verF c day) l 3).1 (litA (verF c day) l 3).2 with
        | false => rfl
        | true => cases h4 : within (x 4) (litA (verF c day) l 4).1 (litA (verF c day) l 4).2 with
          | false => rfl
          | true =>
            rw [ton_eq h x fun i hi => match i, hi with | 0, _ => h0 | 1, _ => h1 | 2, _ => h2 | 3, _ => h3 | 4, _ => h4]
            simp only [Bool.not_true, cond_false, Option.bind_some, Bool.true_and]
            unfold tonC
            cases decide (t = _) <;> rfl
theorem goodE_eq {c : Code} {day f : Int} {l : List Room} {w t : Int} {x : Nat → Int} : goodE (verF c day) f (fun i => litI (verF c day) Room.lo i l) (fun i => litI (verF c day) Room.hi i l) w t (x 0) (x 1) (x 2) (x 3) (x 4) = (inR x (litA (verF c day) l) && (decide (t = w) && decide (tonC c day f x = w))) := by
  unfold goodE inR tonC
  simp only [Bool.and_assoc]; rfl
theorem chk_bool (r0 r1 : Bool) (t0 t1 T0 T1 w0 w1 : Int) : (bif r0 && decide (t0 = T0) then (bif r1 && decide (t1 = T1) then (bif !decide (t0 = w0) then some 47 else bif !decide (t1 = w1) then some 47 else some (0 : Int)) else some 47) else some 47) = some (if ((r0 && (decide (t0 = w0) && decide (T0 = w0))) && (r1 && (decide (t1 = w1) && decide (T1 = w1)))) = true then 0 else 47) := by
  cases r0 <;> cases r1 <;> simp only [Bool.false_and, Bool.true_and, Bool.and_false, cond_false, Bool.false_eq_true, if_false]
  · cases decide (t0 = T0) <;> rfl
  · by_cases a : t0 = T0 <;> by_cases b : t1 = T1 <;> by_cases d : t0 = w0 <;> by_cases e : t1 = w1 <;> by_cases g : T0 = w0 <;> by_cases k : T1 = w1 <;> simp_all
theorem rCheckEnds_eq (c : Code) (day f : Int) (l : List Room) (e : Nat → T_End) : F_r04_CheckEnds c day f l e = F_code_CheckEnds c day f l e := by
  unfold F_r04_CheckEnds F_code_CheckEnds chkE
  by_cases h : endE c day f l = 0
  · rw [if_pos h, h, askI_eq h, endE_ver h]
    simp only [decide_true, Bool.not_true, cond_false, Option.bind_some, plan_eq h, litres_eq, fjudge_eq h]
    rw [chain_eq h, chain_eq h]
    have hd : ∀ sel, (endD sel c day f l).Tonnage = judT sel (verF c day) f (fun i => litI (verF c day) Room.lo i l) (fun i => litI (verF c day) Room.hi i l) := fun sel => by unfold endD; rw [if_pos h]
    unfold chkV
    rw [goodE_eq, goodE_eq, hd, hd]
    exact chk_bool _ _ _ _ _ _ _ _
  · rw [decide_eq_false h, if_neg h]; rfl
theorem codeJudges_true (c : Code) (q : T_Ask) (e : Nat → T_End) : F_l04_CodeJudges c q e = some true := by
  unfold F_l04_CodeJudges
  obtain ⟨a, b, h1, h2, h3, h4, h5⟩ := rEnds_eq c q.Day q.Formula q.Rooms
  rw [rJudge_eq, rCheckEnds_eq, h1]
  simp only [F_code_Judge, F_code_Ends, F_code_CheckEnds, Option.bind_some, h2 0 (by decide), h2 1 (by decide), h2 2 (by decide), h2 3 (by decide), h2 4 (by decide), h3, h4 0 (by decide), h4 1 (by decide), h4 2 (by decide), h4 3 (by decide), h4 4 (by decide), h5, decide_true, Bool.and_self, cond_true]
end Go.Proofs.YtjflgemfeofciaaGreatDoor
