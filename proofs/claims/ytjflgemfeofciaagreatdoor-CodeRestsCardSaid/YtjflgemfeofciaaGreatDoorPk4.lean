import Derived.Test.YtjflgemfeofciaaGreatDoorPj4
/- Layer 4: CodeJudges holds. -/
namespace Go.Proofs.YtjflgemfeofciaaGreatDoor
open Go Go.Ev
set_option linter.unusedVariables false
set_option linter.unusedSimpArgs false
theorem endE_rooms {c : Code} {day f : Int} {l : List Room} (h : endE c day f l = 0) : roomsE l = 0 := by
  unfold endE withE at h
  obtain ⟨_, b⟩ := failE_zero (by decide) h
  by_cases e0 : roomsE l = 0
  · exact e0
  · rw [decide_eq_false e0] at b; cases b
theorem endE_ver {c : Code} {day f : Int} {l : List Room} (h : endE c day f l = 0) : atI c.vs (forceI c day) = some (verF c day) := by
  unfold endE withE at h
  obtain ⟨a, _⟩ := failE_zero (by decide) h
  obtain ⟨_, _, i1, i2⟩ := onE_zero a
  unfold atI verF
  rw [if_pos i1, List.getD_eq_getElem?_getD, List.getElem?_eq_getElem (by omega)]; rfl
theorem plan_eq {c : Code} {day f : Int} {l : List Room} (h : endE c day f l = 0) (n : Int) : F_r04_plan (verF c day) n l = some (planD (verF c day) n l) := by
  have hz := endE_zero h
  unfold F_r04_plan
  rw [decide_eq_true hz.len, hz.puts]; rfl
/-- the litres of the groups. -/
def litA (v : Version) (l : List Room) : Nat → Int × Int := arr [(litI v Room.lo 1 l, litI v Room.hi 1 l), (litI v Room.lo 2 l, litI v Room.hi 2 l), (litI v Room.lo 3 l, litI v Room.hi 3 l), (litI v Room.lo 4 l, litI v Room.hi 4 l), (litI v Room.lo 5 l, litI v Room.hi 5 l)] (litI v Room.lo 1 l, litI v Room.hi 1 l)
theorem litres_eq (v : Version) (n : Int) (l : List Room) : F_r04_litres (planD v n l) = some (litA v l) := rfl
theorem litA_in {v : Version} {l : List Room} (h : roomsE l = 0) : ∀ i, 0 ≤ (litA v l i).1 ∧ (litA v l i).1 ≤ (litA v l i).2 := by
  have k : ∀ i, 0 ≤ litI v Room.lo i l ∧ litI v Room.lo i l ≤ litI v Room.hi i l := fun i => ⟨(lit_in h).1, (lit_in h).2.1⟩
  intro i
  match i with
  | 0 => exact k 1
  | 1 => exact k 2
  | 2 => exact k 3
  | 3 => exact k 4
  | 4 => exact k 5
  | n + 5 => exact k 1
theorem fend_eq {c : Code} {day f : Int} {l : List Room} (h : endE c day f l = 0) (high : Bool) : ∃ e, F_r04_end (verF c day) f (litA (verF c day) l) high = some e ∧ (∀ i, i < 5 → e.Litres i = (endD (selB high) c day f l).Litres i) ∧ e.Tonnage = (endD (selB high) c day f l).Tonnage := by
  have hz := endE_zero h
  obtain ⟨e, h1, h2, h3⟩ := end_eq hz.f01 hz.lines (litA_in (v := verF c day) (endE_rooms h)) high
  refine ⟨e, h1, fun i hi => ?_, ?_⟩
  · rw [h2 i hi]
    unfold endD
    rw [if_pos h]
    match i, hi with
    | 0, _ => rfl
    | 1, _ => rfl
    | 2, _ => rfl
    | 3, _ => rfl
    | 4, _ => rfl
  · rw [h3]
    unfold endD
    rw [if_pos h]; rfl
theorem fjudge_eq {c : Code} {day f : Int} {l : List Room} (h : endE c day f l = 0) : F_r04_judge (verF c day) f l = some ((endD Prod.fst c day f l).Tonnage, (endD Prod.snd c day f l).Tonnage) := by
  obtain ⟨e1, a1, _, a3⟩ := fend_eq h false
  obtain ⟨e2, b1, _, b3⟩ := fend_eq h true
  unfold F_r04_judge
  simp only [plan_eq h, Option.bind_some, litres_eq, a1, b1, a3, b3]
  rfl
theorem askI_eq {c : Code} {day f : Int} {l : List Room} (h : endE c day f l = 0) : askI c day f l = forceI c day := if_pos h
end Go.Proofs.YtjflgemfeofciaaGreatDoor
