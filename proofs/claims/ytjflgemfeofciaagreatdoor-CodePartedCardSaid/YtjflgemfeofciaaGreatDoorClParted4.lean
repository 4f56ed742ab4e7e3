/-
  CodeParted: for every input the law returns true, and each argument reads behind the call as it read before. The card: the variables of the library that the row lists are tied to the program's text.
-/
import Derived.Test.YtjflgemfeofciaaGreatDoorMZ3
import Derived.Test.YtjflgemfeofciaaGreatDoorExT
import Derived.Test.YtjflgemfeofciaaGreatDoorMX3
import Derived.Test.YtjflgemfeofciaaGreatDoorLawG
import Derived.Test.YtjflgemfeofciaaGreatDoorJfP
namespace Go.Proofs.YtjflgemfeofciaaGreatDoor
open Go.ChangeShapes Go.WideShapes Go.ChangeAt Go.RowKit Go.Ev
set_option linter.unusedVariables false
set_option linter.unusedSimpArgs false
set_option maxRecDepth 10000
theorem op_3 {H:Type} {enc:TypeId × Value→H} {W:World} {cs:List Value} (h:Tr enc Tryz.prog W 3 cs):∃ (x:Int),aVs W.heap.size cs=[.i .i64 x]:=by
 obtain ⟨n,rfl,_⟩:=h.int Tryz.underlying3
 exact ⟨n,by simp only [aVs,aV]⟩
theorem op_167 {H:Type} {enc:TypeId × Value→H} {W:World} {cs:List Value} (h:Tr enc Tryz.prog W 167 cs):∃ (x:(Nat→Int)),aVs W.heap.size cs=[.i .i64 (x 0),.i .i64 (x 1),.i .i64 (x 2),.i .i64 (x 3)]:=by
 have hl:cs.length=4:=(h.array Tryz.underlying167).1.trans (by kernel_rfl)
 have hf:=h.elt Tryz.underlying167 (n:=1) (by kernel_rfl)
 obtain ⟨x0,e0⟩:=op_3 (hf 0 (by decide))
 obtain ⟨x1,e1⟩:=op_3 (hf 1 (by decide))
 obtain ⟨x2,e2⟩:=op_3 (hf 2 (by decide))
 obtain ⟨x3,e3⟩:=op_3 (hf 3 (by decide))
 exact ⟨(arr [x0,x1,x2,x3] x0),Qdi (o:=0) (n:=1) e0 (Qdi (o:=1) (n:=1) e1 (Qdi (o:=2) (n:=1) e2 (Qdi (o:=3) (n:=1) e3 (aVs_end (by omega)))))⟩
theorem op_103 {H:Type} {enc:TypeId × Value→H} {W:World} {cs:List Value} (h:Tr enc Tryz.prog W 103 cs):∃ (x:(List (Nat→Int))) (v0:V),aVs W.heap.size cs=[v0]∧RS Arr4R 4 (gW W) v0 x:=by
 obtain ⟨v,l,rfl,hr⟩:=h.rs (s:=4) (R:=Arr4R) Tryz.underlying103 (by kernel_rfl) (by decide) fun cs h=>by
  obtain ⟨x,e⟩:=op_167 h
  rw [e]
  exact ⟨x,rfl⟩
 exact ⟨l,_,by simp only [aVs],hr⟩
theorem op_38 {H:Type} {enc:TypeId × Value→H} {W:World} {cs:List Value} (h:Tr enc Tryz.prog W 38 cs):∃ (x:(Nat→Int)),aVs W.heap.size cs=[.i .i64 (x 0),.i .i64 (x 1),.i .i64 (x 2),.i .i64 (x 3),.i .i64 (x 4)]:=by
 have hl:cs.length=5:=(h.array Tryz.underlying38).1.trans (by kernel_rfl)
 have hf:=h.elt Tryz.underlying38 (n:=1) (by kernel_rfl)
 obtain ⟨x0,e0⟩:=op_3 (hf 0 (by decide))
 obtain ⟨x1,e1⟩:=op_3 (hf 1 (by decide))
 obtain ⟨x2,e2⟩:=op_3 (hf 2 (by decide))
 obtain ⟨x3,e3⟩:=op_3 (hf 3 (by decide))
 obtain ⟨x4,e4⟩:=op_3 (hf 4 (by decide))
 exact ⟨(arr [x0,x1,x2,x3,x4] x0),Qdi (o:=0) (n:=1) e0 (Qdi (o:=1) (n:=1) e1 (Qdi (o:=2) (n:=1) e2 (Qdi (o:=3) (n:=1) e3 (Qdi (o:=4) (n:=1) e4 (aVs_end (by omega))))))⟩
theorem op_73 {H:Type} {enc:TypeId × Value→H} {W:World} {cs:List Value} (h:Tr enc Tryz.prog W 73 cs):∃ (x:(List (Nat→Int))) (v0:V),aVs W.heap.size cs=[v0]∧RS Arr5R 5 (gW W) v0 x:=by
 obtain ⟨v,l,rfl,hr⟩:=h.rs (s:=5) (R:=Arr5R) Tryz.underlying73 (by kernel_rfl) (by decide) fun cs h=>by
  obtain ⟨x,e⟩:=op_38 h
  rw [e]
  exact ⟨x,rfl⟩
 exact ⟨l,_,by simp only [aVs],hr⟩
theorem op_105 {H:Type} {enc:TypeId × Value→H} {W:World} {cs:List Value} (h:Tr enc Tryz.prog W 105 cs):∃ (x:T_Raw) (v1 v2:V),aVs W.heap.size cs=[.i .i64 x.From,v1,v2]∧RS Arr4R 4 (gW W) v1 x.Puts∧RS Arr5R 5 (gW W) v2 x.Pieces:=by
 have hl:=h.len (n:=3) Tryz.underlying105 (by kernel_rfl)
 have hf:=h.fld Tryz.underlying105
 obtain ⟨x0,e0⟩:=op_3 (hf 0 3 0 1 rfl (by kernel_rfl))
 obtain ⟨x1,v1_0,e1,h1_0⟩:=op_103 (hf 1 103 1 1 rfl (by kernel_rfl))
 obtain ⟨x2,v2_0,e2,h2_0⟩:=op_73 (hf 2 73 2 1 rfl (by kernel_rfl))
 exact ⟨(T_Raw.mk x0 x1 x2),v1_0,v2_0,Qdi (o:=0) (n:=1) e0 (Qdi (o:=1) (n:=1) e1 (Qdi (o:=2) (n:=1) e2 (aVs_end (by omega)))),h1_0,h2_0⟩
theorem op_72 {H:Type} {enc:TypeId × Value→H} {W:World} {cs:List Value} (h:Tr enc Tryz.prog W 72 cs):∃ (x:(List T_Raw)) (v0:V),aVs W.heap.size cs=[v0]∧RS R_Raw 3 (gW W) v0 x:=by
 obtain ⟨v,l,rfl,hr⟩:=h.rs (s:=3) (R:=R_Raw) Tryz.underlying72 (by kernel_rfl) (by decide) fun cs h=>by
  obtain ⟨x,v1,v2,e,h1,h2⟩:=op_105 h
  rw [e]
  exact ⟨x,⟨_,_,rfl,h1,h2⟩⟩
 exact ⟨l,_,by simp only [aVs],hr⟩
theorem arg_72 {H:Type} {enc:TypeId × Value→H} {W:World} {v:Value} {d:DataW H} {p:List MemPlace} {b0:Nat} (hv:Value.okWide Tryz.prog W .any b0 72 v) (h:DataW.Trod enc Tryz.prog W 0 (fun _=>true) true 72 v d p):∃ (x:(List T_Raw)) (v0:V),aV W.heap.size v=v0∧RS R_Raw 3 (gW W) v0 x:=by
 obtain ⟨a0,len,cap,rfl⟩:=okWide_slice Tryz.underlying72 hv
 obtain ⟨fuel,hf⟩:=h
 obtain ⟨x,v,e,hr⟩:=op_72 (enc:=enc) (W:=W) (cs:=[.slice a0 len cap]) ⟨fuel,_,hf⟩
 exact ⟨x,v,by simp only [aVs] at e;cases e;rfl,hr⟩
theorem op_75 {H:Type} {enc:TypeId × Value→H} {W:World} {cs:List Value} (h:Tr enc Tryz.prog W 75 cs):∃ (x:T_Some) (v2:V),aVs W.heap.size cs=[.i .i64 x.Day,.i .i64 x.Formula,v2]∧RS Arr5R 5 (gW W) v2 x.Rooms:=by
 have hl:=h.len (n:=3) Tryz.underlying75 (by kernel_rfl)
 have hf:=h.fld Tryz.underlying75
 obtain ⟨x0,e0⟩:=op_3 (hf 0 3 0 1 rfl (by kernel_rfl))
 obtain ⟨x1,e1⟩:=op_3 (hf 1 3 1 1 rfl (by kernel_rfl))
 obtain ⟨x2,v2_0,e2,h2_0⟩:=op_73 (hf 2 73 2 1 rfl (by kernel_rfl))
 exact ⟨(T_Some.mk x0 x1 x2),v2_0,Qdi (o:=0) (n:=1) e0 (Qdi (o:=1) (n:=1) e1 (Qdi (o:=2) (n:=1) e2 (aVs_end (by omega)))),h2_0⟩
theorem arg_75 {H:Type} {enc:TypeId × Value→H} {W:World} {v:Value} {d:DataW H} {p:List MemPlace} {b0:Nat} (hv:Value.okWide Tryz.prog W .any b0 75 v) (h:DataW.Trod enc Tryz.prog W 0 (fun _=>true) true 75 v d p):∃ (x:T_Some) (v2:V),aV W.heap.size v= .agg [.i .i64 x.Day,.i .i64 x.Formula,v2]∧RS Arr5R 5 (gW W) v2 x.Rooms:=by
 obtain ⟨⟨cs⟩,rfl,_⟩:=okWide_struct Tryz.underlying75 hv
 obtain ⟨fuel,hf⟩:=h
 obtain ⟨x,v2,e,h2⟩:=op_75 (enc:=enc) (W:=W) (cs:=cs) ⟨fuel,_,hf⟩
 exact ⟨x,v2,by simp only [aV,e],h2⟩
theorem op_66 {H:Type} {enc:TypeId × Value→H} {W:World} {cs:List Value} (h:Tr enc Tryz.prog W 66 cs):∃ (x:(List Int)) (v0:V),aVs W.heap.size cs=[v0]∧RS IntR 1 (gW W) v0 x:=by
 obtain ⟨v,l,rfl,hr⟩:=h.rs (s:=1) (R:=IntR) Tryz.underlying66 (by kernel_rfl) (by decide) fun cs h=>by
  obtain ⟨x,e⟩:=op_3 h
  rw [e]
  exact ⟨x,rfl⟩
 exact ⟨l,_,by simp only [aVs],hr⟩
theorem arg_66 {H:Type} {enc:TypeId × Value→H} {W:World} {v:Value} {d:DataW H} {p:List MemPlace} {b0:Nat} (hv:Value.okWide Tryz.prog W .any b0 66 v) (h:DataW.Trod enc Tryz.prog W 0 (fun _=>true) true 66 v d p):∃ (x:(List Int)) (v0:V),aV W.heap.size v=v0∧RS IntR 1 (gW W) v0 x:=by
 obtain ⟨a0,len,cap,rfl⟩:=okWide_slice Tryz.underlying66 hv
 obtain ⟨fuel,hf⟩:=h
 obtain ⟨x,v,e,hr⟩:=op_66 (enc:=enc) (W:=W) (cs:=[.slice a0 len cap]) ⟨fuel,_,hf⟩
 exact ⟨x,v,by simp only [aVs] at e;cases e;rfl,hr⟩
set_option maxRecDepth 100000 in
theorem codeParted_lifted (os:Os) (started:os.Started) (H:Type) (enc:TypeId × Value→H):
  ReturnsInHanded {} Tryz.checked os 12 .any (fun w args=>(Rows.codePartedSpec.pre enc Tryz.prog Tryz.f12 [] false w args∧laidMetH Tryz.prog Rows.codePartedRow.laid w)∧sizedMet enc Tryz.prog Tryz.f12 (OpenSpec.ofChange Rows.codePartedSpec) false w args)
   (Rows.codePartedSpec.post enc Tryz.prog Tryz.f12 false true false false):=by
 refine returnsInHanded_of_change_and (C:=Tryz.checked) (X:=fun w _=>laidMetH Tryz.prog Rows.codePartedRow.laid w) (fun _ _ _ hh h=>h.of_heap hh) own started (by kernel_rfl) Tryz.func12
  (ChangeSpec.witness_shaped (enc:=enc) (C:=Tryz.checked) (os:=os) (X:=fun w _=>laidMetH Tryz.prog Rows.codePartedRow.laid w) false (World.laidAll Tryz.prog os Rows.codePartedRow.laid) #[.slice none 0 0,.agg #[.int .i64 0,.int .i64 0,.slice none 0 0],.slice none 0 0] 8 (World.laidAll_os _ _ _)
   (World.shaped_of_ZipB (by kernel_rfl) (by kernel_rfl)) (by kernel_rfl) (by kernel_rfl) (by kernel_rfl)
   (by rw [MakeChecks.laidMetH_plain _ _ _ (by kernel_rfl)];exact laidMet_laidAll _ (by kernel_rfl) (by kernel_rfl))) ?_
 intro W base args ds gs before hval0 hW _ hsz hL _
 have hval:∀ (j:Nat) t v,Tryz.f12.params[j]? =some t→args[j]? =some v→Value.okWide Tryz.prog W .any base t v:=hval0
 have hW':=hW
 obtain ⟨p,q,hA0,hV,rfl,_,_⟩:=hW
 have hA:DataW.TrodAll enc Tryz.prog W 0 (fun _=>true) true Tryz.f12.params.toList args.toList ds p:=hA0
 rw [Tryz.params12] at hA hval
 obtain ⟨v0,vs0,d0,ds0,p0,q0,hargs,rfl,rfl,h0,r0⟩:=trodAll_cons hA
 obtain ⟨v1,vs1,d1,ds1,p1,q1,rfl,rfl,rfl,h1,r1⟩:=trodAll_cons r0
 obtain ⟨v2,vs2,d2,ds2,p2,q2,rfl,rfl,rfl,h2,r2⟩:=trodAll_cons r1
 obtain ⟨rfl,rfl,rfl⟩:=trodAll_nil r2
 obtain rfl:args= #[v0,v1,v2]:=by cases args;simp_all
 obtain ⟨rfl,rfl⟩:=trodVars_none hV
 obtain ⟨x0,w0_0,e0,k0_0⟩:=arg_72 (hval 0 72 v0 rfl rfl) h0
 obtain ⟨x1,w1_2,e1,k1_2⟩:=arg_75 (hval 1 75 v1 rfl rfl) h1
 obtain ⟨x2,w2_0,e2,k2_0⟩:=arg_66 (hval 2 66 v2 rfl rfl) h2
 have z2:x2.length≤17592186044416:=by
  have hz:=sz_slice (R:=IntR) (s:=1) (k:=W.heap.size) (g:=gW W) (v:=v2) (l:=x2) (by rw [e2];exact k2_0) Tryz.underlying66 h2 hsz (j:=2) (t:=66) (by kernel_rfl) rfl (n:=8) (by kernel_rfl)
  unfold reachBytes at hz
  omega
 clear hA0 hval0
 have hw:Fv Tryz.prog natS (.f 12 [] []) (aVs W.heap.size [v0,v1,v2]) (gW W) (.b true):=by
  simp only [aVs,e0,e1,e2]
  exact F_l04_CodeParted_ok x0 x1 x2 _ _ _ _ k0_0 ⟨_,rfl,k1_2⟩ k2_0 true (codeParted_true x0 x1 x2 z2)
 refine (calls_of_true (f:=12) (us:=[v0,v1,v2]) W hw (by kernel_rfl) (natS_ok (pow_of_laid rfl hL)) ⟨_,Tryz.func12,(by
  intro h
  have h2:Tryz.f12.body.isNone=false:=by kernel_rfl
  rw [h] at h2
  cases h2),by kernel_rfl⟩).mono fun e W' ⟨he,hb⟩=>?_
 subst he
 exact ⟨_,rfl,post_law laidOut (by kernel_rfl) rfl Tryz.underlying4 rfl ⟨rfl,rfl,rfl⟩ hW' hb⟩
theorem codeParted_wf:Rows.codePartedRow.wf (OpenSpec.ofChange Rows.codePartedSpec)=true:=by kernel_rfl
theorem codeParted_read:Tryz.f12.params.all (Tryz.prog.readableRec ·)=true:=by kernel_rfl
theorem codeParted_tie:namedTie Tryz.prog Rows.codePartedRow.named Rows.codePartedSpec.vars=true:=by kernel_rfl
theorem codeParted_inp:(Rows.codePartedRow.inPlace == Tryz.prog.inPlace 12)=true:=by kernel_rfl
theorem codeParted_unf:(Rows.codePartedRow.unfollowed == Tryz.prog.unfollowed 12)=true:=by kernel_rfl
theorem codeParted_rec:(Rows.codePartedRow.recurses == Tryz.prog.recurses 12)=true:=by kernel_rfl
theorem codeParted_nam:(Rows.codePartedRow.named == Tryz.prog.varsNamed 12)=true:=by kernel_rfl
theorem codeParted_map:(Rows.codePartedRow.maps == (Tryz.f12.params.toList ++ Rows.codePartedSpec.plain.varTypes Tryz.prog).any (Tryz.prog.mapsRec ·))=true:=by kernel_rfl
theorem codeParted_ifa:(Rows.codePartedRow.ifaces == (Tryz.f12.params.toList ++ Rows.codePartedSpec.plain.varTypes Tryz.prog).any (Tryz.prog.ifacesRec ·))=true:=by kernel_rfl
theorem codeParted_loo:(Rows.codePartedRow.loops == (Tryz.f12.params.toList ++ Rows.codePartedSpec.plain.varTypes Tryz.prog).any (Tryz.prog.loopsFrom ·))=true:=by kernel_rfl
theorem codeParted_wid:(Rows.codePartedRow.wideKeys == (Tryz.f12.params.toList ++ Rows.codePartedSpec.plain.varTypes Tryz.prog ++ Tryz.f12.resultTypes.toList).any (Tryz.prog.wideKeysFrom ·))=true:=by kernel_rfl
theorem codeParted_pk:(Rows.codePartedRow.plainKeys == Tryz.prog.plainKeys)=true:=by kernel_rfl
theorem codeParted_lif:(Rows.codePartedRow.lifted == Tryz.prog.liftsFinal)=true:=by kernel_rfl
theorem codeParted_mak:(Tryz.prog.make == some Rows.codePartedRow.make)=true:=by kernel_rfl
theorem codeParted_vei:(Rows.codePartedRow.veiled == (Tryz.f12.params.toList ++ Rows.codePartedSpec.plain.varTypes Tryz.prog ++ Tryz.f12.resultTypes.toList).any (Tryz.prog.veiledRec ·))=true:=by kernel_rfl
theorem codeParted_vef:Rows.codePartedRow.veiledFits Tryz.prog Tryz.f12.params.toList (Tryz.f12.params.toList ++ Rows.codePartedSpec.plain.varTypes Tryz.prog ++ Tryz.f12.resultTypes.toList)=true:=by kernel_rfl
set_option maxRecDepth 100000 in
theorem codeParted_closed:joinedFacts Tryz.prog 12 Tryz.f12 Rows.codePartedSpec Rows.codePartedRow=true:=(an (an (an (an (an (an (an (an (an (an (an (an (an (an (an (an (an (an (an (an (an (an (an (an (an (an (an (an (an (an (an codeParted_wf laidOut) jf_maps) codeParted_read) codeParted_tie) (by kernel_rfl)) jf_stops) (by kernel_rfl)) jf_knobs) codeParted_inp) codeParted_unf) codeParted_rec) codeParted_nam) codeParted_map) codeParted_ifa) (by kernel_rfl)) codeParted_loo) codeParted_wid) (by kernel_rfl)) (by kernel_rfl)) (by kernel_rfl)) (by kernel_rfl)) codeParted_pk) (by kernel_rfl)) jf_heard) jf_enter) codeParted_lif) codeParted_mak) (by kernel_rfl)) (by kernel_rfl)) codeParted_vei) codeParted_vef)
theorem codeParted_fid:Tryz.prog.funcNamed "moorsom/moorsomlaw04.CodeParted"=some 12:=by kernel_rfl
theorem codeParted_row_holds:Rows.CodePartedSaid:=
 OpenClaim.holds_of_wide 12 Tryz.f12 rfl rfl rfl rfl rfl rfl rfl ⟨rfl,rfl,rfl,rfl,rfl⟩ rfl rfl rfl rfl rfl codeParted_fid Tryz.func12 codeParted_closed
  (of_decide_eq_true (by kernel_rfl)) (by unfold Func.isWrapper;first | (rw [if_pos (by decide+kernel)];kernel_rfl) | (rw [if_neg (by decide+kernel)];exact ⟨rfl,rfl⟩))
  (fun os started H enc _=>codeParted_lifted os started H enc)
theorem codeParted_holds:Rows.CodePartedCardSaid:=
 Claim7.holds_tied_plain_at .later [] [.data,.data,.data,.data,.sentinel,.sentinel,.pinned] true Rows.codePartedCard.stood.harness true
  codeParted_row_holds (fun _ h=>by cases h) (by kernel_rfl) (fun _ h=>by cases h) codeParted_row_tie rfl ⟨rfl,rfl⟩ (by kernel_rfl) rfl
  (fun f fn hf hfn=>by
   obtain rfl:f=12:=Option.some.inj (codeParted_fid.symm.trans hf) |>.symm
   obtain rfl:fn=Tryz.f12:=(Option.some.inj (Tryz.func12.symm.trans hfn)).symm
   exact ⟨by kernel_rfl,fun j t ht=>by
    rw [Tryz.params12] at ht
    have hm:t∈[72,75,66]:=by simpa using Array.mem_of_getElem? ht
    have hall:([72,75,66].all fun u=> !Tryz.prog.wantsStandIn u)=true:=by kernel_rfl
    exact (show Tryz.prog.wantsStandIn t=false by simpa using List.all_eq_true.1 hall t hm)⟩)
  (by kernel_rfl)
#print axioms codeParted_holds
end Go.Proofs.YtjflgemfeofciaaGreatDoor
