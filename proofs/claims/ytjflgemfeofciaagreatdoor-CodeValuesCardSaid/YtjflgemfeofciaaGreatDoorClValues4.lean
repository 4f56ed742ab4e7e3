/-
  CodeValues: for every input the law returns true, and each argument reads behind the call as it read before. The card: the variables of the library that the row lists are tied to the program's text.
-/
import Derived.Test.YtjflgemfeofciaaGreatDoorLv4
import Derived.Test.YtjflgemfeofciaaGreatDoorOpV4
import Derived.Test.YtjflgemfeofciaaGreatDoorJfP
namespace Go.Proofs.YtjflgemfeofciaaGreatDoor
open Go.ChangeShapes Go.WideShapes Go.ChangeAt Go.RowKit Go.Ev
set_option linter.unusedVariables false
set_option linter.unusedSimpArgs false
set_option maxRecDepth 100000

set_option maxRecDepth 100000 in
theorem codeValues_lifted (os : Os) (started : os.Started) (H : Type) (enc : TypeId × Value → H) :
    ReturnsInHanded {} Tryz.checked os 5 .any (fun w args => (Rows.codeValuesSpec.pre enc Tryz.prog Tryz.f5 [] false w args ∧ laidMetH Tryz.prog Rows.codeValuesRow.laid w) ∧ sizedMet enc Tryz.prog Tryz.f5 (OpenSpec.ofChange Rows.codeValuesSpec) false w args)
      (Rows.codeValuesSpec.post enc Tryz.prog Tryz.f5 false true false false) := by
  refine returnsInHanded_of_change_and (C := Tryz.checked) (X := fun w _ => laidMetH Tryz.prog Rows.codeValuesRow.laid w) (fun _ _ _ hh h => h.of_heap hh) own started (by kernel_rfl) Tryz.func5
    (ChangeSpec.witness_shaped (enc := enc) (C := Tryz.checked) (os := os) (X := fun w _ => laidMetH Tryz.prog Rows.codeValuesRow.laid w) false (World.laidAll Tryz.prog os Rows.codeValuesRow.laid) #[.agg #[.string ⟨⟨[]⟩⟩, .slice none 0 0], .agg #[.int .i64 0, .int .i64 0, .int .i64 0, .int .i64 0, .int .i64 0, .int .i64 0, .int .i64 0, .int .i64 0, .int .i64 0]] 8 (World.laidAll_os _ _ _)
      (World.shaped_of_ZipB (by kernel_rfl) (by kernel_rfl)) (by kernel_rfl) (by kernel_rfl) (by kernel_rfl)
      (by rw [MakeChecks.laidMetH_plain _ _ _ (by kernel_rfl)]; exact laidMet_laidAll _ (by kernel_rfl) (by kernel_rfl))) ?_
  intro W base args ds gs before hval0 hW _ _ hL _
  have hval : ∀ (j : Nat) t v, Tryz.f5.params[j]? = some t → args[j]? = some v → Value.okWide Tryz.prog W .any base t v := hval0
  have hW' := hW
  obtain ⟨p, q, hA0, hV, rfl, _, _⟩ := hW
  have hA : DataW.TrodAll enc Tryz.prog W 0 (fun _ => true) true Tryz.f5.params.toList args.toList ds p := hA0
  rw [Tryz.params5] at hA hval
  obtain ⟨v0, vs0, d0, ds0, p0, q0, hargs, rfl, rfl, h0, r0⟩ := trodAll_cons hA
  obtain ⟨v1, vs1, d1, ds1, p1, q1, rfl, rfl, rfl, h1, r1⟩ := trodAll_cons r0
  obtain ⟨rfl, rfl, rfl⟩ := trodAll_nil r1
  obtain rfl : args = #[v0, v1] := by cases args; simp_all
  obtain ⟨rfl, rfl⟩ := trodVars_none hV
  obtain ⟨cs0, c0, e0, h0⟩ := arg_code (hval 0 24 v0 rfl rfl) h0
  obtain ⟨n0, n1, n2, n3, n4, n5, n6, n7, n8, e1⟩ := arg_point (hval 1 49 v1 rfl rfl) h1
  clear hA0 hval0
  have hw : Fv Tryz.prog natS (.f 5 [] []) (aVs W.heap.size [v0, v1]) (gW W) (.b true) := by
    simp only [aVs, e0, e1]
    exact codeValues_walk c0 n0 n1 n2 n3 n4 n5 n6 n7 n8 cs0 _ h0
  refine (calls_of_true (f := 5) (us := [v0, v1]) W hw (by kernel_rfl) (natS_ok (pow_of_laid rfl hL)) ⟨_, Tryz.func5, (by
    intro h
    have h2 : Tryz.f5.body.isNone = false := by kernel_rfl
    rw [h] at h2
    cases h2), by kernel_rfl⟩).mono fun e W' ⟨he, hb⟩ => ?_
  subst he
  exact ⟨_, rfl, post_law laidOut (by kernel_rfl) rfl Tryz.underlying4 rfl ⟨rfl, rfl, rfl⟩ hW' hb⟩

theorem codeValues_wf : Rows.codeValuesRow.wf (OpenSpec.ofChange Rows.codeValuesSpec) = true := by kernel_rfl
theorem codeValues_read : Tryz.f5.params.all (Tryz.prog.readableRec ·) = true := by kernel_rfl
theorem codeValues_tie : namedTie Tryz.prog Rows.codeValuesRow.named Rows.codeValuesSpec.vars = true := by kernel_rfl
theorem codeValues_inp : (Rows.codeValuesRow.inPlace == Tryz.prog.inPlace 5) = true := by kernel_rfl
theorem codeValues_unf : (Rows.codeValuesRow.unfollowed == Tryz.prog.unfollowed 5) = true := by kernel_rfl
theorem codeValues_rec : (Rows.codeValuesRow.recurses == Tryz.prog.recurses 5) = true := by kernel_rfl
theorem codeValues_nam : (Rows.codeValuesRow.named == Tryz.prog.varsNamed 5) = true := by kernel_rfl
theorem codeValues_map : (Rows.codeValuesRow.maps == (Tryz.f5.params.toList ++ Rows.codeValuesSpec.plain.varTypes Tryz.prog).any (Tryz.prog.mapsRec ·)) = true := by kernel_rfl
theorem codeValues_ifa : (Rows.codeValuesRow.ifaces == (Tryz.f5.params.toList ++ Rows.codeValuesSpec.plain.varTypes Tryz.prog).any (Tryz.prog.ifacesRec ·)) = true := by kernel_rfl
theorem codeValues_loo : (Rows.codeValuesRow.loops == (Tryz.f5.params.toList ++ Rows.codeValuesSpec.plain.varTypes Tryz.prog).any (Tryz.prog.loopsFrom ·)) = true := by kernel_rfl
theorem codeValues_wid : (Rows.codeValuesRow.wideKeys == (Tryz.f5.params.toList ++ Rows.codeValuesSpec.plain.varTypes Tryz.prog ++ Tryz.f5.resultTypes.toList).any (Tryz.prog.wideKeysFrom ·)) = true := by kernel_rfl
theorem codeValues_pk : (Rows.codeValuesRow.plainKeys == Tryz.prog.plainKeys) = true := by kernel_rfl
theorem codeValues_lif : (Rows.codeValuesRow.lifted == Tryz.prog.liftsFinal) = true := by kernel_rfl
theorem codeValues_mak : (Tryz.prog.make == some Rows.codeValuesRow.make) = true := by kernel_rfl
theorem codeValues_vei : (Rows.codeValuesRow.veiled == (Tryz.f5.params.toList ++ Rows.codeValuesSpec.plain.varTypes Tryz.prog ++ Tryz.f5.resultTypes.toList).any (Tryz.prog.veiledRec ·)) = true := by kernel_rfl
theorem codeValues_vef : Rows.codeValuesRow.veiledFits Tryz.prog Tryz.f5.params.toList (Tryz.f5.params.toList ++ Rows.codeValuesSpec.plain.varTypes Tryz.prog ++ Tryz.f5.resultTypes.toList) = true := by kernel_rfl
set_option maxRecDepth 100000 in
theorem codeValues_closed : joinedFacts Tryz.prog 5 Tryz.f5 Rows.codeValuesSpec Rows.codeValuesRow = true := (an (an (an (an (an (an (an (an (an (an (an (an (an (an (an (an (an (an (an (an (an (an (an (an (an (an (an (an (an (an (an codeValues_wf laidOut) jf_maps) codeValues_read) codeValues_tie) (by kernel_rfl)) jf_stops) (by kernel_rfl)) jf_knobs) codeValues_inp) codeValues_unf) codeValues_rec) codeValues_nam) codeValues_map) codeValues_ifa) (by kernel_rfl)) codeValues_loo) codeValues_wid) (by kernel_rfl)) (by kernel_rfl)) (by kernel_rfl)) (by kernel_rfl)) codeValues_pk) (by kernel_rfl)) jf_heard) jf_enter) codeValues_lif) codeValues_mak) (by kernel_rfl)) (by kernel_rfl)) codeValues_vei) codeValues_vef)
theorem codeValues_fid : Tryz.prog.funcNamed "moorsom/moorsomlaw04.CodeValues" = some 5 := by kernel_rfl
theorem codeValues_row_holds : Rows.CodeValuesSaid :=
  OpenClaim.holds_of_wide 5 Tryz.f5 rfl rfl rfl rfl rfl rfl rfl ⟨rfl, rfl, rfl, rfl, rfl⟩ rfl rfl rfl rfl rfl codeValues_fid Tryz.func5 codeValues_closed
    (of_decide_eq_true (by kernel_rfl)) (by unfold Func.isWrapper; first | (rw [if_pos (by decide +kernel)]; kernel_rfl) | (rw [if_neg (by decide +kernel)]; exact ⟨rfl, rfl⟩))
    (fun os started H enc _ => codeValues_lifted os started H enc)

theorem codeValues_holds : Rows.CodeValuesCardSaid :=
  Claim7.holds_tied_plain_at .later [] [.data, .data, .data, .data, .sentinel, .sentinel, .pinned] true Rows.codeValuesCard.stood.harness true
    codeValues_row_holds (fun _ h => by cases h) (by kernel_rfl) (fun _ h => by cases h) codeValues_row_tie rfl ⟨rfl, rfl⟩ (by kernel_rfl) rfl
    (fun f fn hf hfn => by
      obtain rfl : f = 5 := Option.some.inj (codeValues_fid.symm.trans hf) |>.symm
      obtain rfl : fn = Tryz.f5 := (Option.some.inj (Tryz.func5.symm.trans hfn)).symm
      exact ⟨by kernel_rfl, fun j t ht => by
        rw [Tryz.params5] at ht
        have hm : t ∈ [24, 49] := by simpa using Array.mem_of_getElem? ht
        have hall : ([24, 49].all fun u => !Tryz.prog.wantsStandIn u) = true := by kernel_rfl
        exact (show Tryz.prog.wantsStandIn t = false by simpa using List.all_eq_true.1 hall t hm)⟩)
    (by kernel_rfl)

#print axioms codeValues_holds

end Go.Proofs.YtjflgemfeofciaaGreatDoor
