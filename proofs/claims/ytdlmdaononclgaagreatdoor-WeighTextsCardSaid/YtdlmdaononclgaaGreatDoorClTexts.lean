/-
  WeighTexts: for every input the law returns true, and each argument reads behind the call as it read before. The card: the variables of the library that the row lists are tied to the program's text.
-/
import Derived.Test.YtdlmdaononclgaaGreatDoorMG11
import Derived.Test.YtdlmdaononclgaaGreatDoorTie
import Derived.Test.YtdlmdaononclgaaGreatDoorCards
import Derived.Lay
import Derived.SevenTiedAt
namespace Go.Proofs.YtdlmdaononclgaaGreatDoor
open Go.ChangeShapes Go.WideShapes Go.ChangeAt Go.RowKit Go.Ev
set_option linter.unusedVariables false
set_option linter.unusedSimpArgs false
set_option maxRecDepth 100000 in
theorem weighTexts_lifted (os:Os) (started:os.Started) (H:Type) (enc:TypeId × Value→H):
  ReturnsInHanded {} Tryz.checked os 3 .any (fun w args=>(Rows.weighTextsSpec.pre enc Tryz.prog Tryz.f3 [] false w args∧laidMetH Tryz.prog Rows.weighTextsRow.laid w)∧sizedMet enc Tryz.prog Tryz.f3 (OpenSpec.ofChange Rows.weighTextsSpec) false w args)
    (Rows.weighTextsSpec.post enc Tryz.prog Tryz.f3 false true false false):=by
 refine returns_shaped_and (C:=Tryz.checked) (X:=fun w _=>laidMetH Tryz.prog Rows.weighTextsRow.laid w) (fun _ _ _ hh h=>h.of_heap hh) own started (by kernel_rfl) Tryz.func3
  (ChangeSpec.witness_shaped (enc:=enc) (C:=Tryz.checked) (os:=os) (X:=fun w _=>laidMetH Tryz.prog Rows.weighTextsRow.laid w) false (World.laidAll Tryz.prog os Rows.weighTextsRow.laid) #[.string ⟨⟨[]⟩⟩,.agg #[.slice none 0 0,.slice none 0 0,.slice none 0 0]] 8 (World.laidAll_os _ _ _)
    (World.shaped_of_ZipB (by kernel_rfl) (by kernel_rfl)) (by kernel_rfl) (by kernel_rfl) (by kernel_rfl)
    (by rw [MakeChecks.laidMetH_plain _ _ _ (by kernel_rfl)];exact laidMet_laidAll _ (by kernel_rfl) (by kernel_rfl))) ?_
 intro W base args ds gs before hval0 hW hsz hL hS
 have hval:∀ (j:Nat) t v,Tryz.f3.params[j]? =some t→args[j]? =some v→Value.okWide Tryz.prog W .any base t v:=hval0
 have hW':=hW
 obtain ⟨p,q,hA0,hV,rfl,_,_⟩:=hW
 have hA:DataW.TrodAll enc Tryz.prog W 0 (fun _=>true) true Tryz.f3.params.toList args.toList ds p:=hA0
 rw [Tryz.params3] at hA hval
 obtain ⟨v0,vs0,d0,ds0,p0,q0,hargs,rfl,rfl,h0,r0⟩:=trodAll_cons hA
 obtain ⟨v1,vs1,d1,ds1,p1,q1,rfl,rfl,rfl,h1,r1⟩:=trodAll_cons r0
 obtain ⟨rfl,rfl,rfl⟩:=trodAll_nil r1
 obtain rfl:args= #[v0,v1]:=by cases args;simp_all
 obtain ⟨rfl,rfl⟩:=trodVars_none hV
 obtain ⟨s,rfl⟩:=okWide_string Tryz.underlying9 (hval 0 9 v0 rfl rfl)
 obtain ⟨x0,y0,z0,rfl,Lx0,Ly0,Lz0⟩:=open_LR3 Tryz.underlying23 (by kernel_rfl) (by kernel_rfl) Tryz.underlying22 Tryz.underlying3 cellsInt bytesInt (hval 1 23 v1 rfl rfl) h1 (reach_at hsz (j:=1) rfl rfl)
 obtain ⟨Ax0,cx0,lx0,rfl,hcx0,hmx0,rdx0,bdx0⟩:=Lx0
 obtain ⟨Ay0,cy0,ly0,rfl,hcy0,hmy0,rdy0,bdy0⟩:=Ly0
 obtain ⟨Az0,cz0,lz0,rfl,hcz0,hmz0,rdz0,bdz0⟩:=Lz0
 clear hA0 hval0
 refine (weighTexts_walk s lx0 ly0 lz0 Ax0 cx0 Ay0 cy0 Az0 cz0 hcx0 hmx0 hcy0 hmy0 hcz0 hmz0 W rdx0 rdy0 rdz0 bdx0 bdy0 bdz0 (txt_of rfl hS hL)).mono fun e W' ⟨he,hb⟩=>?_
 subst he
 exact ⟨_,rfl,post_law laidOut (by kernel_rfl) rfl Tryz.underlying4 rfl ⟨rfl,rfl,rfl⟩ hW' hb⟩
theorem weighTexts_wf:Rows.weighTextsRow.wf (OpenSpec.ofChange Rows.weighTextsSpec)=true:=by kernel_rfl
theorem weighTexts_read:Tryz.f3.params.all (Tryz.prog.readableRec ·)=true:=by kernel_rfl
theorem weighTexts_tie:namedTie Tryz.prog Rows.weighTextsRow.named Rows.weighTextsSpec.vars=true:=by kernel_rfl
theorem weighTexts_inp:(Rows.weighTextsRow.inPlace == Tryz.prog.inPlace 3)=true:=by kernel_rfl
theorem weighTexts_unf:(Rows.weighTextsRow.unfollowed == Tryz.prog.unfollowed 3)=true:=by kernel_rfl
theorem weighTexts_rec:(Rows.weighTextsRow.recurses == Tryz.prog.recurses 3)=true:=by kernel_rfl
theorem weighTexts_nam:(Rows.weighTextsRow.named == Tryz.prog.varsNamed 3)=true:=by kernel_rfl
theorem weighTexts_map:(Rows.weighTextsRow.maps == (Tryz.f3.params.toList ++ Rows.weighTextsSpec.plain.varTypes Tryz.prog).any (Tryz.prog.mapsRec ·))=true:=by kernel_rfl
theorem weighTexts_ifa:(Rows.weighTextsRow.ifaces == (Tryz.f3.params.toList ++ Rows.weighTextsSpec.plain.varTypes Tryz.prog).any (Tryz.prog.ifacesRec ·))=true:=by kernel_rfl
theorem weighTexts_loo:(Rows.weighTextsRow.loops == (Tryz.f3.params.toList ++ Rows.weighTextsSpec.plain.varTypes Tryz.prog).any (Tryz.prog.loopsFrom ·))=true:=by kernel_rfl
theorem weighTexts_wid:(Rows.weighTextsRow.wideKeys == (Tryz.f3.params.toList ++ Rows.weighTextsSpec.plain.varTypes Tryz.prog ++ Tryz.f3.resultTypes.toList).any (Tryz.prog.wideKeysFrom ·))=true:=by kernel_rfl
theorem weighTexts_pk:(Rows.weighTextsRow.plainKeys == Tryz.prog.plainKeys)=true:=by kernel_rfl
theorem weighTexts_lif:(Rows.weighTextsRow.lifted == Tryz.prog.liftsFinal)=true:=by kernel_rfl
theorem weighTexts_mak:(Tryz.prog.make == some Rows.weighTextsRow.make)=true:=by kernel_rfl
theorem weighTexts_vei:(Rows.weighTextsRow.veiled == (Tryz.f3.params.toList ++ Rows.weighTextsSpec.plain.varTypes Tryz.prog ++ Tryz.f3.resultTypes.toList).any (Tryz.prog.veiledRec ·))=true:=by kernel_rfl
theorem weighTexts_vef:Rows.weighTextsRow.veiledFits Tryz.prog Tryz.f3.params.toList (Tryz.f3.params.toList ++ Rows.weighTextsSpec.plain.varTypes Tryz.prog ++ Tryz.f3.resultTypes.toList)=true:=by kernel_rfl
set_option maxRecDepth 100000 in
theorem weighTexts_closed:joinedFacts Tryz.prog 3 Tryz.f3 Rows.weighTextsSpec Rows.weighTextsRow=true:=(an (an (an (an (an (an (an (an (an (an (an (an (an (an (an (an (an (an (an (an (an (an (an (an (an (an (an (an (an (an (an weighTexts_wf laidOut) jf_maps) weighTexts_read) weighTexts_tie) (by kernel_rfl)) jf_stops) (by kernel_rfl)) jf_knobs) weighTexts_inp) weighTexts_unf) weighTexts_rec) weighTexts_nam) weighTexts_map) weighTexts_ifa) (by kernel_rfl)) weighTexts_loo) weighTexts_wid) (by kernel_rfl)) (by kernel_rfl)) (by kernel_rfl)) (by kernel_rfl)) weighTexts_pk) (by kernel_rfl)) jf_heard) jf_enter) weighTexts_lif) weighTexts_mak) (by kernel_rfl)) (by kernel_rfl)) weighTexts_vei) weighTexts_vef)
theorem weighTexts_fid:Tryz.prog.funcNamed "moorsom/moorsomlaw01.WeighTexts"=some 3:=by kernel_rfl
theorem weighTexts_row_holds:Rows.WeighTextsSaid:=
 OpenClaim.holds_of_wide 3 Tryz.f3 rfl rfl rfl rfl rfl rfl rfl ⟨rfl,rfl,rfl,rfl,rfl⟩ rfl rfl rfl rfl rfl weighTexts_fid Tryz.func3 weighTexts_closed
  (of_decide_eq_true (by kernel_rfl)) (by unfold Func.isWrapper;first | (rw [if_pos (by decide+kernel)];kernel_rfl) | (rw [if_neg (by decide+kernel)];exact ⟨rfl,rfl⟩))
  (fun os started H enc _=>weighTexts_lifted os started H enc)
theorem weighTexts_holds:Rows.WeighTextsCardSaid:=
 Claim7.holds_tied_plain_at .later [] [.data,.data,.data,.data,.sentinel,.sentinel,.pinned] true Rows.weighTextsCard.stood.harness true
  weighTexts_row_holds (fun _ h=>by cases h) (by kernel_rfl) (fun _ h=>by cases h) weighTexts_row_tie rfl ⟨rfl,rfl⟩ (by kernel_rfl) rfl
  (fun f fn hf hfn=>by
    obtain rfl:f=3:=Option.some.inj (weighTexts_fid.symm.trans hf) |>.symm
    obtain rfl:fn=Tryz.f3:=(Option.some.inj (Tryz.func3.symm.trans hfn)).symm
    exact ⟨by kernel_rfl,fun j t ht=>by
     rw [Tryz.params3] at ht
     have hm:t∈[9,23]:=by simpa using Array.mem_of_getElem? ht
     have hall:([9,23].all fun u=> !Tryz.prog.wantsStandIn u)=true:=by kernel_rfl
     exact (show Tryz.prog.wantsStandIn t=false by simpa using List.all_eq_true.1 hall t hm)⟩)
  (by kernel_rfl)
#print axioms weighTexts_holds
end Go.Proofs.YtdlmdaononclgaaGreatDoor
