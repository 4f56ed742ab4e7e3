/-
  CodeChecks: for every input the law returns true, and each argument reads behind the call as it read before. The card: the variables of the library that the row lists are tied to the program's text.
-/
import Derived.Test.YtjflgemfeofciaaGreatDoorLc4
import Derived.Test.YtjflgemfeofciaaGreatDoorLawG
import Derived.Test.YtjflgemfeofciaaGreatDoorJfP
namespace Go.Proofs.YtjflgemfeofciaaGreatDoor
open Go.ChangeShapes Go.WideShapes Go.ChangeAt Go.RowKit Go.Ev
set_option linter.unusedVariables false
set_option linter.unusedSimpArgs false
set_option maxRecDepth 100000

set_option maxRecDepth 100000 in
theorem codeChecks_lifted (os : Os) (started : os.Started) (H : Type) (enc : TypeId × Value → H) :
    ReturnsInHanded {} Tryz.checked os 3 .any (fun w args => (Rows.codeChecksSpec.pre enc Tryz.prog Tryz.f3 [] false w args ∧ laidMetH Tryz.prog Rows.codeChecksRow.laid w) ∧ sizedMet enc Tryz.prog Tryz.f3 (OpenSpec.ofChange Rows.codeChecksSpec) false w args)
      (Rows.codeChecksSpec.post enc Tryz.prog Tryz.f3 false true false false) := by
  refine returnsInHanded_of_change_and (C := Tryz.checked) (X := fun w _ => laidMetH Tryz.prog Rows.codeChecksRow.laid w) (fun _ _ _ hh h => h.of_heap hh) own started (by kernel_rfl) Tryz.func3
    (ChangeSpec.witness_shaped (enc := enc) (C := Tryz.checked) (os := os) (X := fun w _ => laidMetH Tryz.prog Rows.codeChecksRow.laid w) false (World.laidAll Tryz.prog os Rows.codeChecksRow.laid) #[.agg #[.string ⟨⟨[]⟩⟩, .slice none 0 0], .slice none 0 0, .agg #[.int .i64 0, .int .i64 0, .int .i64 0, .int .i64 0, .int .i64 0, .int .i64 0]] 8 (World.laidAll_os _ _ _)
      (World.shaped_of_ZipB (by kernel_rfl) (by kernel_rfl)) (by kernel_rfl) (by kernel_rfl) (by kernel_rfl)
      (by rw [MakeChecks.laidMetH_plain _ _ _ (by kernel_rfl)]; exact laidMet_laidAll _ (by kernel_rfl) (by kernel_rfl))) ?_
  intro W base args ds gs before hval0 hW _ _ hL _
  have hval : ∀ (j : Nat) t v, Tryz.f3.params[j]? = some t → args[j]? = some v → Value.okWide Tryz.prog W .any base t v := hval0
  have hW' := hW
  obtain ⟨p, q, hA0, hV, rfl, _, _⟩ := hW
  have hA : DataW.TrodAll enc Tryz.prog W 0 (fun _ => true) true Tryz.f3.params.toList args.toList ds p := hA0
  rw [Tryz.params3] at hA hval
  obtain ⟨v0, vs0, d0, ds0, p0, q0, hargs, rfl, rfl, h0, r0⟩ := trodAll_cons hA
  obtain ⟨v1, vs1, d1, ds1, p1, q1, rfl, rfl, rfl, h1, r1⟩ := trodAll_cons r0
  obtain ⟨v2, vs2, d2, ds2, p2, q2, rfl, rfl, rfl, h2, r2⟩ := trodAll_cons r1
  obtain ⟨rfl, rfl, rfl⟩ := trodAll_nil r2
  obtain rfl : args = #[v0, v1, v2] := by cases args; simp_all
  obtain ⟨rfl, rfl⟩ := trodVars_none hV
  obtain ⟨cs0, c0, e0, h0⟩ := arg_code (hval 0 24 v0 rfl rfl) h0
  obtain ⟨l1, h1⟩ := arg_rooms (hval 1 25 v1 rfl rfl) h1
  obtain ⟨r2, e2⟩ := arg_room (hval 2 29 v2 rfl rfl) h2
  clear hA0 hval0
  have hw : Fv Tryz.prog natS (.f 3 [] []) (aVs W.heap.size [v0, v1, v2]) (gW W) (.b true) := by
    simp only [aVs, e0, e2]
    exact codeChecks_walk c0 l1 r2 cs0 _ _ h0 h1
  refine (calls_of_true (f := 3) (us := [v0, v1, v2]) W hw (by kernel_rfl) (natS_ok (pow_of_laid rfl hL)) ⟨_, Tryz.func3, (by
    intro h
    have h2 : Tryz.f3.body.isNone = false := by kernel_rfl
    rw [h] at h2
    cases h2), by kernel_rfl⟩).mono fun e W' ⟨he, hb⟩ => ?_
  subst he
  exact ⟨_, rfl, post_law laidOut (by kernel_rfl) rfl Tryz.underlying4 rfl ⟨rfl, rfl, rfl⟩ hW' hb⟩

theorem codeChecks_wf : Rows.codeChecksRow.wf (OpenSpec.ofChange Rows.codeChecksSpec) = true := by kernel_rfl
theorem codeChecks_read : Tryz.f3.params.all (Tryz.prog.readableRec ·) = true := by kernel_rfl
theorem codeChecks_tie : namedTie Tryz.prog Rows.codeChecksRow.named Rows.codeChecksSpec.vars = true := by kernel_rfl
theorem codeChecks_inp : (Rows.codeChecksRow.inPlace == Tryz.prog.inPlace 3) = true := by kernel_rfl
theorem codeChecks_unf : (Rows.codeChecksRow.unfollowed == Tryz.prog.unfollowed 3) = true := by kernel_rfl
theorem codeChecks_rec : (Rows.codeChecksRow.recurses == Tryz.prog.recurses 3) = true := by kernel_rfl
theorem codeChecks_nam : (Rows.codeChecksRow.named == Tryz.prog.varsNamed 3) = true := by kernel_rfl
theorem codeChecks_map : (Rows.codeChecksRow.maps == (Tryz.f3.params.toList ++ Rows.codeChecksSpec.plain.varTypes Tryz.prog).any (Tryz.prog.mapsRec ·)) = true := by kernel_rfl
theorem codeChecks_ifa : (Rows.codeChecksRow.ifaces == (Tryz.f3.params.toList ++ Rows.codeChecksSpec.plain.varTypes Tryz.prog).any (Tryz.prog.ifacesRec ·)) = true := by kernel_rfl
theorem codeChecks_loo : (Rows.codeChecksRow.loops == (Tryz.f3.params.toList ++ Rows.codeChecksSpec.plain.varTypes Tryz.prog).any (Tryz.prog.loopsFrom ·)) = true := by kernel_rfl
theorem codeChecks_wid : (Rows.codeChecksRow.wideKeys == (Tryz.f3.params.toList ++ Rows.codeChecksSpec.plain.varTypes Tryz.prog ++ Tryz.f3.resultTypes.toList).any (Tryz.prog.wideKeysFrom ·)) = true := by kernel_rfl
theorem codeChecks_pk : (Rows.codeChecksRow.plainKeys == Tryz.prog.plainKeys) = true := by kernel_rfl
theorem codeChecks_lif : (Rows.codeChecksRow.lifted == Tryz.prog.liftsFinal) = true := by kernel_rfl
theorem codeChecks_mak : (Tryz.prog.make == some Rows.codeChecksRow.make) = true := by kernel_rfl
theorem codeChecks_vei : (Rows.codeChecksRow.veiled == (Tryz.f3.params.toList ++ Rows.codeChecksSpec.plain.varTypes Tryz.prog ++ Tryz.f3.resultTypes.toList).any (Tryz.prog.veiledRec ·)) = true := by kernel_rfl
theorem codeChecks_vef : Rows.codeChecksRow.veiledFits Tryz.prog Tryz.f3.params.toList (Tryz.f3.params.toList ++ Rows.codeChecksSpec.plain.varTypes Tryz.prog ++ Tryz.f3.resultTypes.toList) = true := by kernel_rfl
set_option maxRecDepth 100000 in
theorem codeChecks_closed : joinedFacts Tryz.prog 3 Tryz.f3 Rows.codeChecksSpec Rows.codeChecksRow = true := (an (an (an (an (an (an (an (an (an (an (an (an (an (an (an (an (an (an (an (an (an (an (an (an (an (an (an (an (an (an (an codeChecks_wf laidOut) jf_maps) codeChecks_read) codeChecks_tie) (by kernel_rfl)) jf_stops) (by kernel_rfl)) jf_knobs) codeChecks_inp) codeChecks_unf) codeChecks_rec) codeChecks_nam) codeChecks_map) codeChecks_ifa) (by kernel_rfl)) codeChecks_loo) codeChecks_wid) (by kernel_rfl)) (by kernel_rfl)) (by kernel_rfl)) (by kernel_rfl)) codeChecks_pk) (by kernel_rfl)) jf_heard) jf_enter) codeChecks_lif) codeChecks_mak) (by kernel_rfl)) (by kernel_rfl)) codeChecks_vei) codeChecks_vef)
theorem codeChecks_fid : Tryz.prog.funcNamed "moorsom/moorsomlaw04.CodeChecks" = some 3 := by kernel_rfl
theorem codeChecks_row_holds : Rows.CodeChecksSaid :=
  OpenClaim.holds_of_wide 3 Tryz.f3 rfl rfl rfl rfl rfl rfl rfl ⟨rfl, rfl, rfl, rfl, rfl⟩ rfl rfl rfl rfl rfl codeChecks_fid Tryz.func3 codeChecks_closed
    (of_decide_eq_true (by kernel_rfl)) (by unfold Func.isWrapper; first | (rw [if_pos (by decide +kernel)]; kernel_rfl) | (rw [if_neg (by decide +kernel)]; exact ⟨rfl, rfl⟩))
    (fun os started H enc _ => codeChecks_lifted os started H enc)

theorem codeChecks_holds : Rows.CodeChecksCardSaid :=
  Claim7.holds_tied_plain_at .later [] [.data, .data, .data, .data, .sentinel, .sentinel, .pinned] true Rows.codeChecksCard.stood.harness true
    codeChecks_row_holds (fun _ h => by cases h) (by kernel_rfl) (fun _ h => by cases h) codeChecks_row_tie rfl ⟨rfl, rfl⟩ (by kernel_rfl) rfl
    (fun f fn hf hfn => by
      obtain rfl : f = 3 := Option.some.inj (codeChecks_fid.symm.trans hf) |>.symm
      obtain rfl : fn = Tryz.f3 := (Option.some.inj (Tryz.func3.symm.trans hfn)).symm
      exact ⟨by kernel_rfl, fun j t ht => by
        rw [Tryz.params3] at ht
        have hm : t ∈ [24, 25, 29] := by simpa using Array.mem_of_getElem? ht
        have hall : ([24, 25, 29].all fun u => !Tryz.prog.wantsStandIn u) = true := by kernel_rfl
        exact (show Tryz.prog.wantsStandIn t = false by simpa using List.all_eq_true.1 hall t hm)⟩)
    (by kernel_rfl)

#print axioms codeChecks_holds

end Go.Proofs.YtjflgemfeofciaaGreatDoor
