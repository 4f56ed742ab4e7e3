import Derived.Test.YtdlmdaononclgaaGreatDoorShelf
import Derived.WalkKit
import Derived.WalkSpells
import Derived.WalkLawsBesides
import Derived.Lib.FrozenHead2
import Derived.Lib.OthersKept
import Derived.Shelf.Strings.BuilderK
import Derived.Test.YtdlmdaononclgaaGreatDoorMG3
import Derived.Lib.SmallJoins
import Derived.Outline
import Derived.Handy
import Derived.Deep.QuietTactic
import Derived.BigQuiet
import Derived.Lib.Hide
import Derived.Shelf.SlicesE.DeleteFunc
import Derived.Test.YtdlmdaononclgaaGreatDoorMG2
import Derived.Defers
import Derived.Recover
namespace Go.Proofs.YtdlmdaononclgaaGreatDoor
open Go.RowKit
set_option linter.unusedVariables false
set_option linter.unusedSimpArgs false
theorem infoBuilder:(Tryz.prog.info? 53).map (·.size)=some 2:=by kernel_rfl
theorem liesBuilder:liesAt Tryz.prog Tryz.prog.depth 53 (2 / Tryz.prog.cellsOf 53) 0 53 1=true:=by kernel_rfl
theorem infoByte':(Tryz.prog.info? 5).map (fun i=>(i.zero,i.size,i.bytes))=some (some (.int .u8 0),1,1):=by kernel_rfl
set_option maxHeartbeats 1000000 in
set_option maxRecDepth 100000 in
theorem copy_used (b:Nat) (w:World) (h0:w.cell? ⟨b,0,none⟩=some (.pointer (some ⟨b,0,none⟩))):
  Calls Tryz.prog 47 #[.pointer (some ⟨b,0,none⟩)] w fun e w'=>e= .returned (.tuple #[])∧w'=w:=by
 obtain ⟨j,hj,_⟩:=Option.map_eq_some_iff.1 infoBuilder
 go_enter Tryz.func47,Tryz.ntmps47
 go_wp2
 rw [Lib.run_neq_ptr_same w _ Tryz.underlying50 hj]
 go_wp2
 go_end0
 exact ⟨rfl,rfl⟩
set_option maxHeartbeats 1000000 in
set_option maxRecDepth 100000 in
theorem copy_fresh (b:Nat) (w:World) (h0:w.cell? ⟨b,0,none⟩=some (.pointer none)) (hsh:w.shape? b=some (53,2)) (hfz:w.frozen? ⟨b,0,none⟩=false):
  Calls Tryz.prog 47 #[.pointer (some ⟨b,0,none⟩)] w fun e w'=>e= .returned (.tuple #[])∧w'=w.setCell ⟨b,0,none⟩ (.pointer (some ⟨b,0,none⟩)):=by
 obtain ⟨j,hj,hjs⟩:=Option.map_eq_some_iff.1 infoBuilder
 go_enter Tryz.func47,Tryz.ntmps47
 go_wp2
 rw [Lib.run_to_unsafe w ⟨b,0,none⟩ Tryz.underlying50 Tryz.underlying99 hj (by rw [hjs];decide) hsh (Nat.zero_lt_succ 1)]
 simp only [Result.andThen]
 rw [Oper.upon_value]
 go_wp2
 rw [run_callFunc_extern Tryz.func67 (by kernel_rfl) (by kernel_rfl) (by kernel_rfl) (e:=Extern.AbiNoEscape.same) (by kernel_rfl)]
 rw [Lib.run_noEscape]
 simp only [Result.andThen]
 rw [Oper.upon_value]
 go_wp2
 rw [Lib.run_from_unsafe w ⟨b,0,none⟩ Tryz.underlying99 Tryz.underlying50 hj hsh liesBuilder]
 simp only [Result.andThen]
 rw [Oper.upon_value]
 go_wp2
 go_end0
 exact ⟨rfl,rfl⟩
abbrev BU (B b:Nat) (bs:List Value) (w:World):Prop:=Lib.BuilderAtF 53 5 B b (.pointer (some ⟨b,0,none⟩)) bs w
theorem copy_any (B b:Nat) (bs:List Value) (w:World) (h:Lib.IsBuilderF 53 5 B b bs w):
  Calls Tryz.prog 47 #[.pointer (some ⟨b,0,none⟩)] w fun e w'=>e= .returned (.tuple #[])∧BU B b bs w'∧Below B w w'∧Lib.OthersKept 5 (some b) w w':=by
 rcases h with h | h
 ·refine (copy_fresh b w h.cell0 h.shape h.frozen0).mono ?_
  rintro e w' ⟨rfl,rfl⟩
  exact ⟨rfl,h.used _,(Below.refl B w).setCell (p:=⟨b,0,none⟩) h.1 _,(Lib.OthersKept.refl _ _ w).setCell ⟨b,0,none⟩ rfl _⟩
 ·refine (copy_used b w h.cell0).mono ?_
  rintro e w' ⟨rfl,rfl⟩
  exact ⟨rfl,h,Below.refl B _,Lib.OthersKept.refl _ _ _⟩
theorem bu_cells {B b:Nat} {v:Value} {w1 w2 wa:World} {p:Value} (hbk:w1.heap[b]? =some (.cells #[p,v] 53 (0,0))) (ha:wa.heap[b]? =w1.heap[b]?) (hs:w1.heap.size≤wa.heap.size) (hg:wa.grownBy w2 v.ownBlock) (hne:v.ownBlock≠some b):
  w2.heap[b]? =some (.cells #[p,v] 53 (0,0)):=by
 have hlt:b < w1.heap.size:=(Array.getElem?_eq_some_iff.1 hbk).1
 rw [hg.block b (by omega) (fun e=>hne e.symm),ha,hbk]
set_option maxHeartbeats 2000000 in
set_option maxRecDepth 100000 in
theorem Builder_WriteByte_k (B b:Nat) (bs:List Value) (c:Int) (w:World) (h:Lib.IsBuilderF 53 5 B b bs w) (hlen:bs.length+1≤140737488355328) (hBw:B≤w.heap.size):
  Calls Tryz.prog 27 #[.pointer (some ⟨b,0,none⟩),.int .u8 c] w fun e w'=>e= .returned .nilIface∧BU B b (bs ++ [.int .u8 c]) w'∧Below B w w'∧Lib.OthersKept 5 (some b) w w':=by
 obtain ⟨i0,hi,hz0,hz1,hz2⟩:=info_parts infoByte'
 go_enter Tryz.func27,Tryz.ntmps27
 go_wp2_with (go_at_call 47;refine (copy_any B b bs _ h).mono ?_)
 rintro e w1 ⟨rfl,h1,hb1,hk1⟩
 obtain ⟨hB,v,hbk,hown,hne⟩:=h1
 have c0:w1.cell? ⟨b,0,none⟩=some (.pointer (some ⟨b,0,none⟩)):=by rw [Lib.cell_of_heap hbk];rfl
 have c1:w1.cell? ⟨b,1,none⟩=some v:=by rw [Lib.cell_of_heap hbk];rfl
 go_wp2_with (at_builtin;refine wpList_append_ownF _ rfl _ _ 51 rfl B 5 i0 (.int .u8 0) 1 1 Tryz.underlying51 hi hz0 hz1 hz2 rfl (by decide) _ _ _ rfl (hown.alloc _) ⟨w1.heap.size,0,none⟩ 1 1 [.int .u8 c] rfl rfl ?c1 ?c2 ?c3 ?c4 ?c5 ?_)
 case c1=>
  intro j u hj
  match j,hj with
  | 0,hj=>simp at hj;subst hj;simp [Addr.add]
 case c2=>intro u hu;simp at hu;subst hu;rfl
 case c3=>unfold maxLen;omega
 case c4=>omega
 case c5=>have:=hb1.size;simp;omega
 intro v' w2 hown' hgrow _
 have hlt:b < w1.heap.size:=(Array.getElem?_eq_some_iff.1 hbk).1
 have hb2:=bu_cells (B:=B) hbk (Lib.alloc_old w1 (.cells #[.int .u8 c] 5) b hlt) (by simp) hgrow hne
 have d0:w2.cell? ⟨b,0,none⟩=some (.pointer (some ⟨b,0,none⟩)):=by rw [Lib.cell_of_heap hb2];rfl
 have d1:w2.cell? ⟨b,1,none⟩=some v:=by rw [Lib.cell_of_heap hb2];rfl
 have f1:w2.frozen? ⟨b,1,none⟩=false:=Lib.frozen_of_heap hb2 1
 obtain ⟨g,cap,rfl⟩:∃ g cap,v'= .slice (some ⟨g,0,none⟩) (bs.length+1) cap:=by
  rcases hown'.2 with ⟨_,h0⟩ | ⟨g,cap,cur,fz,hv,_⟩
  · omega
  · exact ⟨g,cap,hv⟩
 go_wp2
 go_ret
 refine ⟨rfl,?_,?_,((hk1.alloc _).grown hgrow (Lib.ownsRowF_kind (hown.alloc _))).setCell ⟨b,1,none⟩ rfl _⟩
 ·exact Lib.BuilderAtF.put (T:=53) (e:=5) hB hb2 (bs':=bs ++ [.int .u8 c]) (by simpa using hown') (by decide)
 ·exact ((hb1.alloc (by have:=hb1.size;omega) _).grown hgrow (by have:=hb1.size;simp;omega) (fun k hk=>(hown.lt k hk).1)).setCell (p:=⟨b,1,none⟩) hB _
set_option maxHeartbeats 2000000 in
set_option maxRecDepth 100000 in
theorem Builder_WriteString_k (B b:Nat) (bs:List Value) (s:ByteArray) (w:World) (h:Lib.IsBuilderF 53 5 B b bs w) (hlen:bs.length+s.size≤140737488355328) (hBw:B≤w.heap.size):
  Calls Tryz.prog 25 #[.pointer (some ⟨b,0,none⟩),.string s] w fun e w'=>e= .returned (.tuple #[.int .i64 s.size,.nilIface])∧BU B b (bs ++ Lib.strCells s) w'∧Below B w w'∧Lib.OthersKept 5 (some b) w w':=by
 obtain ⟨i0,hi,hz0,hz1,hz2⟩:=info_parts infoByte'
 go_enter Tryz.func25,Tryz.ntmps25
 go_wp2_with (go_at_call 47;refine (copy_any B b bs _ h).mono ?_)
 rintro e w1 ⟨rfl,h1,hb1,hk1⟩
 obtain ⟨hB,v,hbk,hown,hne⟩:=h1
 have c0:w1.cell? ⟨b,0,none⟩=some (.pointer (some ⟨b,0,none⟩)):=by rw [Lib.cell_of_heap hbk];rfl
 have c1:w1.cell? ⟨b,1,none⟩=some v:=by rw [Lib.cell_of_heap hbk];rfl
 go_wp2_with (at_builtin;refine Lib.wpList_append_own_stringF _ rfl _ _ 51 9 rfl B 5 i0 Tryz.underlying51 Tryz.underlying9 hi hz0 hz1 hz2 _ _ _ rfl hown s rfl ?c3 ?c4 ?c5 ?_)
 case c3=>unfold maxLen;omega
 case c4=>omega
 case c5=>have:=hb1.size;omega
 intro v' w2 hown' hgrow _
 have hb2:=bu_cells (B:=B) hbk rfl (Nat.le_refl _) hgrow hne
 have d0:w2.cell? ⟨b,0,none⟩=some (.pointer (some ⟨b,0,none⟩)):=by rw [Lib.cell_of_heap hb2];rfl
 have d1:w2.cell? ⟨b,1,none⟩=some v:=by rw [Lib.cell_of_heap hb2];rfl
 have f1:w2.frozen? ⟨b,1,none⟩=false:=Lib.frozen_of_heap hb2 1
 obtain ⟨ao,n',cap,rfl⟩:∃ ao n' cap,v'= .slice ao n' cap:=by
  rcases hown'.2 with ⟨hv,_⟩ | ⟨g,cap,cur,fz,hv,_⟩
  ·exact ⟨_,_,_,hv⟩
  ·exact ⟨_,_,_,hv⟩
 go_wp2
 go_ret2
 refine ⟨rfl,?_,?_,(hk1.grown hgrow (Lib.ownsRowF_kind hown)).setCell ⟨b,1,none⟩ rfl _⟩
 ·exact Lib.BuilderAtF.put (T:=53) (e:=5) hB hb2 (bs':=bs ++ Lib.strCells s) (by simpa [Lib.strCells_length] using hown') (by decide)
 ·exact (hb1.grown hgrow (by have:=hb1.size;omega) (fun k hk=>(hown.lt k hk).1)).setCell (p:=⟨b,1,none⟩) hB _
theorem Builder_String_any_k (B b:Nat) (l:List UInt8) (w:World) (h:Lib.IsBuilderF 53 5 B b (Lib.byteCells l) w) (hBw:B≤w.heap.size):
  Calls Tryz.prog 28 #[.pointer (some ⟨b,0,none⟩)] w fun e w'=>e= .returned (.string ⟨l.toArray⟩)∧(Lib.IsBuilderF 53 5 B b (Lib.byteCells l) w'∧Below B w w'∧Lib.OthersKept 5 (some b) w w'):=
 Tryz.Builder_String_any_k B b l w h hBw
end Go.Proofs.YtdlmdaononclgaaGreatDoor
namespace Go.Proofs.YtdlmdaononclgaaGreatDoor
open Go.RowKit
set_option linter.unusedVariables false
set_option linter.unusedSimpArgs false
def BL (B b:Nat) (bs:List UInt8) (w:World):Prop:=Lib.IsBuilderF 53 5 B b (Lib.byteCells bs) w
structure OK2 (B b:Nat) (w w':World):Prop where
 below:Below B w w'
 others:Lib.OthersKept 5 (some b) w w'
theorem OK2.refl (B b:Nat) (w:World):OK2 B b w w:=⟨Below.refl _ _,Lib.OthersKept.refl _ _ _⟩
theorem OK2.trans {B b:Nat} {w v u:World} (h:OK2 B b w v) (k:OK2 B b v u):OK2 B b w u:=⟨h.below.trans k.below,h.others.trans k.others⟩
theorem others_of_below {w w':World} {b:Option Nat} (h:Below w.heap.size w w'):Lib.OthersKept 5 b w w':=fun k o hk _ _=>by
 have hl:k < w.heap.size:=(Array.getElem?_eq_some_iff.1 hk).1
 rw [h.block k hl];exact hk
theorem OK2.of_below {B b:Nat} {w w':World} (h:Below w.heap.size w w') (hB:B≤w.heap.size):OK2 B b w w':=⟨h.mono hB,others_of_below h⟩
theorem BL.keep {B b:Nat} {bs:List UInt8} {w w':World} (h:BL B b bs w) (hb:Below w.heap.size w w'):BL B b bs w':=by
 have step:∀ p,Lib.BuilderAtF 53 5 B b p (Lib.byteCells bs) w→Lib.BuilderAtF 53 5 B b p (Lib.byteCells bs) w':=by
  rintro p ⟨hB,v,h1,h2,h3⟩
  have hl:b < w.heap.size:=(Array.getElem?_eq_some_iff.1 h1).1
  refine ⟨hB,v,by rw [hb.block b hl];exact h1,h2.kept (row:=none) ⟨hb.os,hb.tape,hb.output,hb.size,fun k hk _=>hb.block k hk⟩ ?_,h3⟩
  cases hv:v.ownBlock with
  | none=>exact .inl rfl
  | some x=>exact .inr (by simp)
 exact h.elim (fun x=>.inl (step _ x)) (fun x=>.inr (step _ x))
theorem strCells_eq (l:List UInt8):Lib.strCells ⟨l.toArray⟩=Lib.byteCells l:=rfl
theorem byteCells_append (a b:List UInt8):Lib.byteCells (a ++ b)=Lib.byteCells a ++ Lib.byteCells b:=by simp [Lib.byteCells]
theorem byteCells_length (a:List UInt8):(Lib.byteCells a).length=a.length:=by simp [Lib.byteCells]
theorem WS_is (B b:Nat) (bs s:List UInt8) (hl:bs.length≤1000000) (hs:s.length≤1000000) (w:World) (h:BL B b bs w) (hBw:B≤w.heap.size):
   Calls Tryz.prog 25 #[.pointer (some ⟨b,0,none⟩),.string ⟨s.toArray⟩] w fun e w'=>e= .returned (.tuple #[.int .i64 s.length,.nilIface])∧BL B b (bs ++ s) w'∧OK2 B b w w':=
 (Builder_WriteString_k B b (Lib.byteCells bs) ⟨s.toArray⟩ w h (by rw [byteCells_length];simp [ByteArray.size];omega) hBw).mono fun e w' ⟨he,h1,h2,h3⟩=>by
   refine ⟨by rw [he];rfl,?_,h2,h3⟩
   unfold BL
   rw [byteCells_append, ←strCells_eq s]
   exact .inr h1
theorem WB_is (B b:Nat) (bs:List UInt8) (c:UInt8) (n:Int) (hc:n=c.toNat) (hl:bs.length≤1000000) (w:World) (h:BL B b bs w) (hBw:B≤w.heap.size):
   Calls Tryz.prog 27 #[.pointer (some ⟨b,0,none⟩),.int .u8 n] w fun e w'=>e= .returned .nilIface∧BL B b (bs ++ [c]) w'∧OK2 B b w w':=
 (Builder_WriteByte_k B b (Lib.byteCells bs) n w h (by rw [byteCells_length];omega) hBw).mono fun e w' ⟨he,h1,h2,h3⟩=>by
   refine ⟨he,?_,h2,h3⟩
   unfold BL
   rw [byteCells_append]
   subst hc
   exact .inr h1
theorem itoa_is (n:Int) (h0: -9223372036854775808≤n) (h1:n≤9223372036854775807) (w:World) (ht:Lib.TabIs Tryz.prog w "internal/strconv.uint64pow10" .u64 Lib.pow10Tab):
   Calls Tryz.prog 26 #[.int .i64 n] w fun e w'=>e= .returned (.string ⟨(Lib.itoa n).toArray⟩)∧Below w.heap.size w w':=
 (Tryz.strconv_Itoa n h0 h1 w ht).mono fun e w' ⟨he,k,os,hw⟩=>⟨he,by
   subst hw
   refine (Qaa (Below.refl _ w) k).trans ⟨rfl,rfl,rfl,by simp [Sort.grow],fun j hj=>?_⟩
   have hj':j < w.heap.size:=by simpa using hj
   show (w.heap ++ os)[j]? =w.heap[j]?
   exact Array.getElem?_append_left hj'⟩
def Pow (w:World):Prop:=Lib.TabIs Tryz.prog w "internal/strconv.uint64pow10" .u64 Lib.pow10Tab
theorem Pow.keep {w w':World} (h:Pow w) (hb:Below w.heap.size w w'):Pow w':=by
 cases hg:Tryz.prog.globalNamed "internal/strconv.uint64pow10" with
 | none=>unfold Pow Lib.TabIs World.var? at h;rw [hg] at h;cases h
 | some g=>exact Go.Joins.tab_stays hg h hb (Nat.le_refl _)
set_option maxHeartbeats 2000000 in
set_option maxRecDepth 10000 in
theorem Print1_is (B b:Nat) (bs word:List UInt8) (hbs:bs.length≤100000) (hwd:word.length≤100) (l:List Int) (h64:In64 l) {n:Nat} (hn:l.length=n) (hn1:n≤1000) (g off c:Nat) (w:World)
  (hc:∀ w',OK2 B b w w'→∀ j,j < n→w'.cell? ⟨g,off+j,none⟩=some (.int .i64 (ix l j))) (hp:∀ w',OK2 B b w w'→Pow w')
  (h:BL B b bs w) (hBw:B≤w.heap.size):
  Calls Tryz.prog 24 #[.string ⟨word.toArray⟩,.slice (some ⟨g,off,none⟩) n c,.pointer (some ⟨b,0,none⟩)] w fun e w'=>e= .returned (.tuple #[])∧BL B b (bs ++ rowT word l) w'∧OK2 B b w w':=by
 have HC:=Lib.hid hc
 have HP:=Lib.hid hp
 have H64:=Lib.hid h64
 have HN:=Lib.hid hn
 have HB:=Lib.hid h
 clear hc hp h64 hn h
 go_enter Tryz.func24,Tryz.ntmps24
 go_wp2_with fail
 refine (WS_is B b bs word (by omega) (by omega) _ HB.out hBw).mono ?_
 rintro e w1 ⟨rfl,h1,k1⟩
 have H1:=Lib.hid h1
 have K1:=Lib.hid k1
 clear h1 k1
 go_wp2
 go_loopw [11] (fun x wr=>∃ k:Nat,k≤n∧x= .int .i64 k∧BL B b (bs ++ word ++ (l.take k).flatMap numT) wr∧OK2 B b w wr) (fun x _=>n - (intOf x).toNat)
 case atStart=>exact ⟨0,by omega,rfl,by simpa using H1.out,K1.out⟩
 case round=>
  obtain ⟨k,hk,rfl,hb,hK⟩:=hrel
  have HBr:=Lib.hid hb
  have HK:=Lib.hid hK
  clear hb hK
  have hlen:=take_num_len l H64.out k (by have:=HN.out;omega)
  have hsz:B≤wr.heap.size:=Nat.le_trans hBw HK.out.below.size
  by_cases hk':k < n
  · have y0:=HC.out wr HK.out k hk'
    obtain ⟨b0,b1⟩:=H64.out k (by have:=HN.out;omega)
    have hnum:=numT_len _ b0 b1
    have hst:=take_num l k (by have:=HN.out;omega)
    obtain ⟨x,hx⟩:∃ x,ix l k=x:=⟨_,rfl⟩
    rw [hx] at y0 b0 b1 hnum hst
    have T:Hid (Calls Tryz.prog 26 #[.int .i64 x] wr fun e w'=>e= .returned (.string ⟨(Lib.itoa x).toArray⟩)∧Below wr.heap.size wr w'):=Lib.hid (itoa_is x b0 b1 wr (HP.out wr HK.out))
    obtain ⟨d,hd⟩:∃ d,Lib.itoa x=d:=⟨_,rfl⟩
    have hnt:numT x=32 :: d:=by unfold numT;rw [hd]
    rw [hnt] at hst hnum
    rw [hd] at T
    simp only [List.length_cons] at hnum
    obtain ⟨s,hs⟩:∃ s,bs ++ word ++ (l.take k).flatMap numT=s:=⟨_,rfl⟩
    have hsl:s.length≤200000:=by rw [←hs,List.length_append,List.length_append];omega
    rw [hs] at HBr
    have k2:=fun W=>str_add W [32] d 9 (by simp) (by omega)
    have HS:Hid (bs ++ word ++ (l.take (k+1)).flatMap numT=s ++ (32 :: d)):=Lib.hid (by rw [hst, ←List.append_assoc,hs])
    clear hx hs hst hd hnt hlen b0 b1
    go_wp2_with (go_at_call 26;(with_reducible refine T.out.mono ?_);rintro e w2 ⟨rfl,hb2⟩;have HB2:=Lib.hid hb2;clear hb2)
    refine (WS_is B b s ([32] ++ d) (by omega) (by simp;omega) _ (HBr.out.keep HB2.out) (Nat.le_trans hsz HB2.out.size)).mono ?_
    rintro e w3 ⟨rfl,h3,k3⟩
    have H3:=Lib.hid h3
    have K3:=Lib.hid k3
    clear h3 k3
    go_wp2
    go_roundw
    case rel=>exact ⟨k+1,by omega,by go_num,by rw [HS.out];exact H3.out,(HK.out.trans (OK2.of_below HB2.out hsz)).trans K3.out⟩
    case measure=>simp [intOf];omega
  · obtain rfl:k=n:=by omega
    have e:(l.take k)=l:=by rw [←HN.out,List.take_length]
    rw [e] at hlen HBr
    have e2:bs ++ rowT word l=(bs ++ word ++ l.flatMap numT) ++ [10]:=by unfold rowT;simp
    have hsl:(bs ++ word ++ l.flatMap numT).length≤200000:=by rw [List.length_append,List.length_append];omega
    obtain ⟨s,hs⟩:∃ s,bs ++ word ++ l.flatMap numT=s:=⟨_,rfl⟩
    rw [hs] at HBr e2 hsl
    have HE:=Lib.hid e2
    clear hs e e2 hlen
    go_wp2_with fail
    refine (WB_is B b s 10 10 (by decide) (by omega) _ HBr.out hsz).mono ?_
    rintro e w3 ⟨rfl,h3,k3⟩
    have H3:=Lib.hid h3
    have K3:=Lib.hid k3
    clear h3 k3
    go_wp2
    exact bodyPost_end (by simp [results,Tryz.results24,go_sem]) rfl ⟨rfl,by rw [HE.out];exact H3.out,HK.out.trans K3.out⟩
theorem BL.start (w:World) (B:Nat) (hB:B≤w.heap.size):BL B w.heap.size [] (w.alloc (.cells #[.pointer none,.slice none 0 0] 53)):=
 .inl ⟨hB,.slice none 0 0,heap_alloc_new w _,⟨rfl,.inl ⟨rfl,rfl⟩⟩,by simp [Value.ownBlock]⟩
theorem BS_is (B b:Nat) (bs:List UInt8) (w:World) (h:BL B b bs w) (hBw:B≤w.heap.size):
   Calls Tryz.prog 28 #[.pointer (some ⟨b,0,none⟩)] w fun e w'=>e= .returned (.string ⟨bs.toArray⟩)∧Below B w w':=
 (Builder_String_any_k B b bs w h hBw).mono fun e w' ⟨he,_,h2,_⟩=>⟨he,h2⟩
theorem box_stays {w w1 w2:World} {a b c:Value} {B:Nat} {ob:Obj} (hb:Below (w.alloc (.cells #[a,b,c] 26)).heap.size (w.alloc (.cells #[a,b,c] 26)) w1) (h:OK2 B w1.heap.size (w1.alloc ob) w2):
  w2.cell? ⟨w.heap.size,0,none⟩=some a∧w2.cell? ⟨w.heap.size,1,none⟩=some b∧w2.cell? ⟨w.heap.size,2,none⟩=some c:=by
 have h1:w1.heap[w.heap.size]? =some (.cells #[a,b,c] 26 (0,0)):=by rw [hb.block _ (by simp)];exact heap_alloc_new w _
 have hl:w.heap.size < w1.heap.size:=(Array.getElem?_eq_some_iff.1 h1).1
 have h2:(w1.alloc ob).heap[w.heap.size]? =some (.cells #[a,b,c] 26 (0,0)):=by rw [Lib.alloc_old w1 _ _ hl];exact h1
 have h3:=h.others _ _ h2 (by intro e;simp only [Option.some.injEq] at e;omega) (by intro _ _ e;cases e)
 refine ⟨?_,?_,?_⟩ <;> (rw [cell_of_row _ w.heap.size _ _ _ _ h3];rfl)
theorem OwnI.formM {w:World} {base:Nat} {v:Value} {xs:List Int} (h:OwnI w base v xs) {n:Nat} (hn:xs.length=n) (hp:0 < n):∃ g cap,v= .slice (some ⟨g,0,none⟩) n cap:=by
 rcases h.2 with ⟨_,e⟩ | ⟨g',cap,cur,e,_⟩
 ·omega
 ·exact ⟨g',cap,by rw [e,hn]⟩
theorem OwnI.stays {W:World} {base g n c B b:Nat} {bs:List UInt8} {ys:List Int} (h:OwnI W base (.slice (some ⟨g,0,none⟩) n c) ys) (hb:BL B b bs W):∀ w',OK2 B b W w'→∀ j,j < ys.length→w'.cell? ⟨g,0+j,none⟩=some (.int .i64 (ix ys j)):=by
 intro w' hk j hj
 have hbl:∃ cs,W.heap[b]? =some (.cells cs 53 (0,0)):=by
  rcases hb with ⟨_,v,h1,_⟩ | ⟨_,v,h1,_⟩ <;> exact ⟨_,h1⟩
 obtain ⟨cs,hcs⟩:=hbl
 rcases h.2 with ⟨e,_⟩ | ⟨g',cap,cur,e,_,hg,_⟩
 ·cases e
 ·have hgg:g=g':=by simp only [Value.slice.injEq,Option.some.injEq,Addr.mk.injEq] at e;exact e.1.1
  subst hgg
  have h3:=hk.others _ _ hg (by intro e;simp only [Option.some.injEq] at e;subst e;rw [hcs] at hg;cases hg) (by intro _ _ e;cases e)
  obtain ⟨b',o',e1,hlt,hc⟩:=h.rd1.ints (by omega)
  simp only [Option.some.injEq,Addr.mk.injEq] at e1
  obtain ⟨rfl,rfl,_⟩:=e1
  rw [World.cell?_of_block (w:=W) (by show w'.heap[g]? =W.heap[g]?; rw [h3,hg])]
  exact hc j hj
set_option maxHeartbeats 4000000 in
set_option maxRecDepth 10000 in
theorem Print_yes {xs zs:List Int} {rs:List (List Int)} (hr:Qav xs zs rs=true) (A1:Option Addr) (c1:Nat) (A2:Option Addr) (c2:Nat) (A3:Option Addr) (c3:Nat) (vs:List Value) (w:World) (h:TD w w.heap.size xs zs rs A1 c1 A2 c2 A3 c3 vs) (hp:Pow w):
  Calls Tryz.prog 8 #[.agg #[.slice A1 xs.length c1,.slice A2 zs.length c2,.slice A3 rs.length c3]] w fun e w'=>e= .returned (.tuple #[.string ⟨(Qbr xs zs rs).toArray⟩,.int .i64 0])∧Below w.heap.size w w':=by
 have C:Hid (∀ W,Below w.heap.size w W→Calls Tryz.prog 14 #[.agg #[.slice A1 xs.length c1,.slice A2 zs.length c2,.slice A3 rs.length c3]] W fun e w'=>e= .returned (.bool true)∧Below W.heap.size W w'):=Lib.hid (fun W hB=>Qcz hr A1 c1 A2 c2 A3 c3 vs W ((h.keep hB (Nat.le_refl _)).more hB.size))
 obtain ⟨ok1,ok2,hrl,hrw,hH⟩:=table_ok hr
 obtain ⟨iz,ir⟩:=table_in hr
 obtain ⟨n,hn⟩:∃ n,xs.length=n:=⟨_,rfl⟩
 obtain ⟨m,hm⟩:∃ n,zs.length=n:=⟨_,rfl⟩
 have n2:2≤n:=by have:=ok1.two;omega
 have n9:n≤9:=by have:=ok1.many;omega
 have m2:2≤m:=by have:=ok2.two;omega
 have m7:m≤7:=by have:=ok2.many;omega
 have hrn:rs.length=n:=hrl.trans hn
 have HT:=Lib.hid h
 have hmf:∀ (fn:Fn) (first cap:Array Value) (w:World),(Instr.makeFunc fn first cap).run Tryz.prog w= .ok (.func fn first cap) w:=fun _ _ _ _=>rfl
 have HPK:Hid (∀ W,Below w.heap.size w W→Pow W):=Lib.hid (fun W hB=>hp.keep hB)
 have hwl:=rowT_le Qaq (by decide) zs iz
 have hll:=linesT_le m7 (fun i hi=>(hrw i hi).trans hm) ir
 have HRW:Hid (∀ i,i < n→(rx rs i).length=m):=Lib.hid (fun i hi=>by rw [hrw i (by omega),hm])
 have HIR:Hid (∀ i,i < n→In64 (ix xs i :: rx rs i)):=Lib.hid (fun i hi=>ir i (by omega))
 rw [hm] at hwl
 rw [hrn] at hll
 have hpt:Qbr xs zs rs=rowT Qaq zs ++ linesT xs rs n:=by unfold Qbr;rw [hrn]
 rw [hpt]
 have HLL:=Lib.hid hll
 have HN:=Lib.hid hn
 have HM:=Lib.hid hm
 have HRN:=Lib.hid hrn
 have HIZ:=Lib.hid iz
 rw [hn,hm,hrn] at C ⊢
 clear ok1 ok2 hrl hrw hH hn hm hrn h hr iz ir hpt hll hp
 obtain ⟨b1,o1,rfl,hb1,hc1'⟩:=HT.out.rd1.ints (by have:=HN.out;omega)
 obtain ⟨b2,o2,rfl,hb2,hc2'⟩:=HT.out.rd2.ints (by have:=HM.out;omega)
 obtain ⟨b3,o3,rfl,hb3,hc3'⟩:=HT.out.rd3.cells (by have:=HRN.out;omega)
 have HC1:=Lib.hid hc1'
 have HC2:=Lib.hid hc2'
 have HC3:=Lib.hid hc3'
 clear hc1' hc2' hc3' hb1 hb2 hb3
 go_enter Tryz.func8,Tryz.ntmps8
 go_wp2_with (go_at_call 14;(with_reducible refine (C.out _ (Below.alloc (Below.refl _ _) (Nat.le_refl _) _)).mono ?_);rintro e w1 ⟨rfl,hb1⟩;obtain ⟨d0,d1,d2⟩:=cells_box3 hb1;have hz1:w.heap.size < w1.heap.size:=(by have:=hb1.size;simp at this;omega);have hB1:=Lib.hid (Qa hb1 (Below.alloc (Below.refl _ _) (Nat.le_refl _) _) (by simp));have BX:Hid (∀ w2,OK2 w.heap.size w1.heap.size (w1.alloc (.cells #[.pointer none,.slice none 0 0] 53)) w2→w2.cell? ⟨w.heap.size,0,none⟩=_∧w2.cell? ⟨w.heap.size,1,none⟩=_∧w2.cell? ⟨w.heap.size,2,none⟩=_):=Lib.hid (fun w2 hk=>box_stays hb1 hk);clear hb1)
 have hW0:Hid (Below w.heap.size w (w1.alloc (.cells #[.pointer none,.slice none 0 0] 53))):=Lib.hid (hB1.out.alloc hB1.out.size _)
 refine (Print1_is w.heap.size w1.heap.size [] Qaq (by simp) (by decide) zs HIZ.out HM.out (by omega) b2 o2 c2 _ (fun w' hk j hj=>cell_later (hW0.out.trans hk.below) (HC2.out j (by have:=HM.out;omega))) (fun w' hk=>HPK.out w' (hW0.out.trans hk.below)) (BL.start w1 w.heap.size (by omega)) (by simp;omega)).mono ?_
 rintro e w2 ⟨rfl,h2,k2⟩
 obtain ⟨e0,e1,e2⟩:=BX.out w2 k2
 have H2:=Lib.hid h2
 have K2:=Lib.hid k2
 clear h2 k2
 go_wp2
 go_loopw [19] (fun x wr=>∃ k:Nat,k≤n∧x= .int .i64 k∧BL w.heap.size w1.heap.size (rowT Qaq zs ++ linesT xs rs k) wr∧OK2 w.heap.size w1.heap.size (w1.alloc (.cells #[.pointer none,.slice none 0 0] 53)) wr) (fun x _=>n - (intOf x).toNat)
 case atStart=>exact ⟨0,by omega,rfl,by simpa [linesT] using H2.out,K2.out⟩
 case round=>
  obtain ⟨k,hk,rfl,hbl,hok⟩:=hrel
  have HBR:=Lib.hid hbl
  have HKR:=Lib.hid hok
  obtain ⟨f0,f1,f2⟩:=BX.out wr hok
  have hBt:Hid (Below w.heap.size w wr):=Lib.hid (hW0.out.trans hok.below)
  have hsz:w.heap.size≤wr.heap.size:=hBt.out.size
  clear hbl hok
  by_cases hk':k < n
  ·obtain ⟨Ai,ci,hv,hci,hmi,hri⟩:=HT.out.rd3.each k (by have:=HRN.out;omega)
   have x1:=cell_later hBt.out (HC1.out k (by have:=HN.out;omega))
   have x3:=cell_later hBt.out (HC3.out k (by have:=HRN.out;omega))
   rw [hv,HRW.out k hk'] at x3
   obtain ⟨bi,oi,rfl,hbi,hcl⟩:=hri.ints (by rw [HRW.out k hk'];omega)
   rw [HRW.out k hk'] at hcl
   have HCL:Hid (∀ W,Below wr.heap.size wr W→∀ j,j < m→W.cell? ⟨bi,oi+j,none⟩=some (.int .i64 (ix (rx rs k) j))):=Lib.hid (fun W hW j hj=>cell_later hW (cell_later hBt.out (hcl j hj)))
   have HI:=Lib.hid (HIR.out k hk')
   have hst:=linesT_succ xs rs k
   have hll:=HLL.out k (by omega)
   have HMr:=Lib.hid (HRW.out k hk')
   obtain ⟨y,hy⟩:∃ y,ix xs k=y:=⟨_,rfl⟩
   obtain ⟨rk,hrk⟩:∃ y,rx rs k=y:=⟨_,rfl⟩
   rw [hy,hrk] at HI hst
   rw [hrk] at HCL HMr
   rw [hy] at x1
   obtain ⟨s,hs⟩:∃ l,rowT Qaq zs ++ linesT xs rs k=l:=⟨_,rfl⟩
   have hsl:s.length≤4000:=by rw [←hs,List.length_append];omega
   rw [hs] at HBR
   have HS:Hid (rowT Qaq zs ++ linesT xs rs (k+1)=s ++ rowT Qal (y :: rk)):=Lib.hid (by rw [hst, ←List.append_assoc,hs])
   have HLN:Hid ((([y]:List Int) ++ rk).length=m+1):=Lib.hid (by rw [List.length_append,HMr.out];simp;omega)
   clear hv hri hcl hci hmi hy hrk hs hst hll hbi
   have R4:Hid (∀ W4 g4 d4,Below wr.heap.size wr W4→OwnI W4 wr.heap.size (.slice (some ⟨g4,0,none⟩) (m+1) d4) ([y] ++ rk)→Calls Tryz.prog 24 #[.string ⟨#[115,116,97,116,105,111,110]⟩,.slice (some ⟨g4,0,none⟩) (m+1) d4,.pointer (some ⟨w1.heap.size,0,none⟩)] W4 fun e w'=>e= .returned (.tuple #[])∧BL w.heap.size w1.heap.size (s ++ rowT Qal (y :: rk)) w'∧OK2 w.heap.size w1.heap.size wr w'):=Lib.hid (fun W4 g4 d4 hB ho=>
    have hk4:OK2 w.heap.size w1.heap.size wr W4:=OK2.of_below hB hsz
    (Print1_is w.heap.size w1.heap.size s Qal (by omega) (by decide) (y :: rk) HI.out HLN.out (by omega) g4 0 d4 W4 (fun w' hk j hj=>ho.stays (HBR.out.keep hB) w' hk j (by rw [HLN.out];exact hj)) (fun w' hk=>HPK.out w' (hBt.out.trans (hk4.trans hk).below)) (HBR.out.keep hB) (Nat.le_trans hsz hB.size)).mono fun e w' ⟨h1,h2,h3⟩=>⟨h1,h2,hk4.trans h3⟩)
   have P1:=Lib.hid (ownI_one wr wr.heap.size (Nat.le_refl _) y)
   have P2:Hid (∀ j,j < m→(wr.alloc (.cells #[.int .i64 y] 3)).cell? ⟨bi,oi+j,none⟩=some (.int .i64 (ix rk j))):=Lib.hid (fun j hj=>HCL.out _ (Below.alloc (Below.refl _ _) (Nat.le_refl _) _) j hj)
   have P3:[y].length+m≤1000000:=by simp only [List.length_cons,List.length_nil];omega
   have P4:wr.heap.size≤(wr.alloc (.cells #[.int .i64 y] 3)).heap.size:=by simp
   have HP3:=Lib.hid P3
   have HP4:=Lib.hid P4
   clear P3 P4
   go_wp2_with (first | (at_builtin;refine wpList_appN rfl (.tmp 30) (.tmp 31) rfl wr.heap.size _ [y] rfl P1.out bi oi m ci rk HMr.out rfl P2.out HP3.out HP4.out ?_;intro v4 W4 ho4 hg4;obtain ⟨g4,d4,rfl⟩:=ho4.formM (n:=m+1) HLN.out (by omega);have HB4:=Lib.hid (show Below wr.heap.size wr W4 from app1_below (Below.refl _ wr) hg4);have HO4:=Lib.hid ho4;clear ho4 hg4))
   refine (R4.out _ _ _ HB4.out HO4.out).mono ?_
   rintro e w5 ⟨rfl,h5,k5⟩
   have H5:=Lib.hid h5
   have K5:=Lib.hid k5
   clear h5 k5
   go_wp2
   go_roundw
   case rel=>exact ⟨k+1,by omega,by go_num,by rw [HS.out];exact H5.out,HKR.out.trans K5.out⟩
   case measure=>simp [intOf];omega
  ·obtain rfl:k=n:=by omega
   go_wp2_with fail
   refine (BS_is _ _ _ _ HBR.out hsz).mono ?_
   rintro e w5 ⟨rfl,hb5⟩
   go_wp2
   go_ret2
   exact ⟨rfl,hBt.out.trans hb5⟩
theorem Print_any {xs zs:List Int} {rs:List (List Int)} (A1:Option Addr) (c1:Nat) (A2:Option Addr) (c2:Nat) (A3:Option Addr) (c3:Nat) (vs:List Value) (w:World) (h:TD w w.heap.size xs zs rs A1 c1 A2 c2 A3 c3 vs) (hp:Pow w):
   Calls Tryz.prog 8 #[.agg #[.slice A1 xs.length c1,.slice A2 zs.length c2,.slice A3 rs.length c3]] w fun e w'=>e= .returned (.tuple #[.string ⟨(printV xs zs rs).toArray⟩,.int .i64 (tabE xs zs rs)])∧Below w.heap.size w w':=by
 cases hr:Qav xs zs rs with
 | true=>
   have e1:printV xs zs rs=Qbr xs zs rs:=by unfold printV;rw [hr];rfl
   have e2:tabE xs zs rs=0:=by unfold tabE;rw [hr];rfl
   rw [e1,e2]
   exact Print_yes hr A1 c1 A2 c2 A3 c3 vs w h hp
 | false=>
   have C:Hid (∀ W,Below w.heap.size w W→Calls Tryz.prog 14 #[.agg #[.slice A1 xs.length c1,.slice A2 zs.length c2,.slice A3 rs.length c3]] W fun e w'=>e= .returned (.bool false)∧Below W.heap.size W w'):=Lib.hid (fun W hB=>Qcz hr A1 c1 A2 c2 A3 c3 vs W ((h.keep hB (Nat.le_refl _)).more hB.size))
   have e1:printV xs zs rs=[]:=by unfold printV;rw [hr];rfl
   have e2:tabE xs zs rs=13:=by unfold tabE;rw [hr];rfl
   rw [e1,e2]
   clear e1 e2 h hr
   go_enter Tryz.func8,Tryz.ntmps8
   go_wp2_with (go_at_call 14;(with_reducible refine (C.out _ (Below.alloc (Below.refl _ _) (Nat.le_refl _) _)).mono ?_);rintro e w1 ⟨rfl,hb1⟩)
   go_ret2
   exact ⟨rfl,Qa hb1 (Below.alloc (Below.refl _ _) (Nat.le_refl _) _) (by simp)⟩
end Go.Proofs.YtdlmdaononclgaaGreatDoor
namespace Go.Proofs.YtdlmdaononclgaaGreatDoor
open Go.RowKit
set_option linter.unusedVariables false
set_option linter.unusedSimpArgs false
structure Txt (w:World):Prop where
 pow:Pow w
 ml:∃ m,w.cell? ⟨1,0,none⟩=some (.int .i64 m)
 es:∃ ev,w.cell? ⟨2,0,none⟩=some ev∧(ev= .nilIface∨∃ te pe,ev= .iface te pe)
 er:∃ ev,w.cell? ⟨3,0,none⟩=some ev∧(ev= .nilIface∨∃ te pe,ev= .iface te pe)
theorem cell_lt {w:World} {p:Addr} {v:Value} (h:w.cell? p=some v):p.block < w.heap.size:=by
 rcases Nat.lt_or_ge p.block w.heap.size with h1 | h1
 ·exact h1
 ·simp [World.cell?, Array.getElem?_eq_none h1] at h
theorem Txt.keep {w w':World} (h:Txt w) (hb:Below w.heap.size w w'):Txt w':=by
 have k:∀ {p v},w.cell? p=some v→w'.cell? p=some v:=fun hp=>(hb.cell (cell_lt hp)).trans hp
 obtain ⟨m,hm⟩:=h.ml
 obtain ⟨a,ha,ha2⟩:=h.es
 obtain ⟨b,hb1,hb2⟩:=h.er
 exact ⟨h.pow.keep hb,⟨m,k hm⟩,⟨a,k ha,ha2⟩,⟨b,k hb1,hb2⟩⟩
def numW (l:List UInt8):Option Int:=match Lib.atoiAll l with
 | .ok v=>if l.length≤6∧Lib.itoa v=l∧0≤v then some v else none
 | _=>none
def wrongP:List PanicEntry:=[{v:=.iface 37 (.agg #[]),recovered:=false}]
def NumQ (l:List UInt8) (w:World) (e:Ending) (w':World):Prop:=(match numW l with | some v=>e= .returned (.int .i64 v) | none=>e= .panicked wrongP)∧Below w.heap.size w w'
theorem number_any (s:ByteArray) (hlim:s.size≤281474976710656) (w:World) (t:Txt w):
   Calls Tryz.prog 38 #[.string s] w (NumQ s.data.toList w):=by
 unfold NumQ
 cases h:Lib.atoiAll s.data.toList with
 | ok v=>
   obtain ⟨v0,v1⟩:=Lib.atoiAll_bounds h
   have bw:∀ {W1:World},(W1=w∨∃ t,W1=Lib.bytesWorld w 5 t)→Below w.heap.size w W1:=fun hW=>by
    rcases hW with rfl | ⟨x,rfl⟩
    ·exact Below.refl _ _
    ·exact Go.Joins.below_bytesWorld _ _ _ _ (Nat.le_refl _)
   have hA:=Tryz.strconv_Atoi_ok s (by omega) v h w
   have hI:∀ {W1:World},Below w.heap.size w W1→_:=fun {W1} hb=>itoa_is v v0 v1 W1 (t.pow.keep hb)
   have hz:s.data.toList.length=s.size:=Array.length_toList
   by_cases hp:s.size≤6
   ·by_cases hi:Lib.itoa v=s.data.toList
    ·have hs:(⟨(Lib.itoa v).toArray⟩:ByteArray)=s:=by rw [hi]
     rw [hs] at hI
     by_cases h0:v < 0
     ·have e:numW s.data.toList=none:=by unfold numW;rw [h];exact if_neg fun k=>by have:=k.2.2;omega
      rw [e]
      clear h hi hs e
      go_enter Tryz.func38,Tryz.ntmps38
      go_wp2_with (go_at_call 62;refine hA.mono ?_;rintro e W1 ⟨rfl,hW⟩)
      go_wp2_with (go_at_call 26;refine (hI (bw hW)).mono ?_;rintro e W2 ⟨rfl,hb2⟩)
      exact ⟨rfl,rfl,(bw hW).trans (hb2.mono (bw hW).size)⟩
     ·have e:numW s.data.toList=some v:=by unfold numW;rw [h];exact if_pos ⟨by omega,hi,by omega⟩
      rw [e]
      clear h hi hs e
      go_enter Tryz.func38,Tryz.ntmps38
      go_wp2_with (go_at_call 62;refine hA.mono ?_;rintro e W1 ⟨rfl,hW⟩)
      go_wp2_with (go_at_call 26;refine (hI (bw hW)).mono ?_;rintro e W2 ⟨rfl,hb2⟩)
      go_ret
      exact ⟨rfl,(bw hW).trans (hb2.mono (bw hW).size)⟩
    ·have e:numW s.data.toList=none:=by unfold numW;rw [h];exact if_neg fun k=>hi k.2.1
     have hs: ¬ (⟨(Lib.itoa v).toArray⟩:ByteArray).toList=s.toList:=by
      rw [ByteArray.toList_eq,ByteArray.toList_eq]
      exact hi
     rw [e]
     clear h hi e
     generalize (⟨(Lib.itoa v).toArray⟩:ByteArray)=z at hI hs
     go_enter Tryz.func38,Tryz.ntmps38
     go_wp2_with (go_at_call 62;refine hA.mono ?_;rintro e W1 ⟨rfl,hW⟩)
     go_wp2_with (go_at_call 26;refine (hI (bw hW)).mono ?_;rintro e W2 ⟨rfl,hb2⟩)
     exact ⟨rfl,rfl,(bw hW).trans (hb2.mono (bw hW).size)⟩
   ·have e:numW s.data.toList=none:=by unfold numW;rw [h];exact if_neg fun k=>by have:=k.1;omega
    rw [e]
    clear h e
    go_enter Tryz.func38,Tryz.ntmps38
    go_wp2_with (go_at_call 62;refine hA.mono ?_;rintro e W1 ⟨rfl,hW⟩)
    exact ⟨rfl,rfl,bw hW⟩
 | range=>
   obtain ⟨ev,h1,h2⟩:=t.er
   have e:numW s.data.toList=none:=by unfold numW;rw [h]
   rw [e]
   go_enter Tryz.func38,Tryz.ntmps38
   go_wp2_with (go_at_call 62;refine (Tryz.strconv_Atoi_range s hlim h ev w h1 h2).mono ?_;rintro e W1 ⟨N,rfl,hN,_,hb⟩)
   exact ⟨rfl,rfl,hb⟩
 | _=>
   obtain ⟨ev,h1,h2⟩:=t.es
   have e:numW s.data.toList=none:=by unfold numW;rw [h]
   rw [e]
   go_enter Tryz.func38,Tryz.ntmps38
   go_wp2_with (go_at_call 62;refine (Tryz.strconv_Atoi_syntax s hlim h ev w h1 h2).mono ?_;rintro e W1 ⟨N,rfl,hN,_,hb⟩)
   exact ⟨rfl,rfl,hb⟩
noncomputable def Qbc (c:UInt8) (s:ByteArray):List ByteArray:=Lib.splitB ⟨#[c]⟩ 0 (Lib.countB s ⟨#[c]⟩) s
theorem pieces_len (c:UInt8) (s:ByteArray):(Qbc c s).length=Lib.countB s ⟨#[c]⟩+1:=Lib.splitB_all ⟨#[c]⟩ (Nat.le_refl 1) 0 _ s rfl
theorem split_any (c:UInt8) (s:ByteArray) (hs:s.size < 4294967281) (w:World) (t:Txt w):
  Calls Tryz.prog 34 #[.string s,.string ⟨#[c]⟩] w fun e w'=>e= .returned (.slice (some ⟨w.heap.size,0,none⟩) (Qbc c s).length (Qbc c s).length)∧w'=w.alloc (.cells ((Qbc c s).map Value.string).toArray 9):=by
 obtain ⟨m,hm⟩:=t.ml
 have h:=Tryz.strings_Split s ⟨#[c]⟩ m w hs hm (Nat.le_refl 1)
 rw [pieces_len]
 exact h
theorem Qcy (c:UInt8) (s:ByteArray):(Qbc c s).length≤s.size+1:=by
 rw [pieces_len]
 have:=Lib.countB_le ⟨#[c]⟩ (Nat.le_refl 1) s.size s (Nat.le_refl _)
 omega
def lnN (P:List ByteArray):Nat:=if P.getLast? =some ByteArray.empty then P.length - 1 else P.length
theorem lines_any (s:ByteArray) (hs:s.size < 4294967281) (w:World) (t:Txt w):
  Calls Tryz.prog 11 #[.string s] w fun e w'=>e= .returned (.slice (some ⟨w.heap.size,0,none⟩) (lnN (Qbc 10 s)) (Qbc 10 s).length)∧w'=w.alloc (.cells ((Qbc 10 s).map Value.string).toArray 9):=by
 have hS:=split_any 10 s hs w t
 have hl:=Qcy 10 s
 have h1:1≤(Qbc 10 s).length:=by rw [pieces_len];omega
 generalize Qbc 10 s=P at hS hl h1
 obtain ⟨k,hk⟩:∃ k,P.length=k+1:=⟨P.length - 1,by omega⟩
 obtain ⟨x,hx⟩:∃ x,P[k]? =some x:=⟨P[k]'(by omega),List.getElem?_eq_getElem _⟩
 have hg:P.getLast? =some x:=by rw [List.getLast?_eq_getElem?, hk];exact hx
 have hc:(w.alloc (.cells (P.map Value.string).toArray 9)).cell? ⟨w.heap.size,k,none⟩=some (.string x):=by
  unfold World.cell?
  rw [heap_alloc_new w _]
  simp [hx]
 unfold lnN
 rw [hg,hk]
 rw [hk] at hS
 generalize w.alloc (.cells (P.map Value.string).toArray 9)=W at hS hc
 by_cases he:x=ByteArray.empty
 ·subst he
  rw [if_pos rfl]
  go_enter Tryz.func11,Tryz.ntmps11
  go_wp2_with (go_at_call 34;refine hS.mono ?_;rintro e W1 ⟨rfl,rfl⟩)
  go_ret
  exact ⟨rfl,rfl⟩
 ·have hne:x.toList.isEmpty=false:=by
   cases hx2:x.toList with
   | nil=>rw [ByteArray.toList_eq] at hx2;exact absurd (Go.WideShapes.bytes_inj (a:=x) (b:=ByteArray.empty) hx2) he
   | cons a l=>rfl
  rw [if_neg fun h=>he (Option.some.inj h)]
  go_enter Tryz.func11,Tryz.ntmps11
  go_wp2_with (go_at_call 34;refine hS.mono ?_;rintro e W1 ⟨rfl,rfl⟩)
  all_goals go_ret
  all_goals first | exact ⟨rfl,rfl⟩ | (exfalso;simp_all)
open Go.Lib Go.Sort Go.Shelf in
theorem putRow_alloc (C:Array Value) (t:TypeId) (w:World) (d:Array ByteArray) (h:d.size=C.size):putRow Value.string (w.alloc (.cells C t)) w.heap.size 0 d=w.alloc (.cells (d.map Value.string) t):=by
 unfold putRow mapBlock World.alloc
 congr 1
 apply Array.ext_getElem?
 intro k
 rw [Array.getElem?_modify]
 by_cases hk:w.heap.size=k
 ·subst hk
  simp only [if_true,Array.getElem?_push_size,Option.map_some,onCells]
  congr 2
  apply Array.ext
  ·simp [putCells,h]
  ·intro j h1 h2
   simp only [Array.size_map] at h2
   simp [putCells,h2]
 ·rw [if_neg hk]
  simp only [Array.getElem?_push]
  rw [if_neg fun e=>hk e.symm,if_neg fun e=>hk e.symm]
noncomputable def wrdL (s:ByteArray):List ByteArray:=(Qbc 32 s).filter fun x=> !x.toList.isEmpty
noncomputable def wrdR (s:ByteArray):List ByteArray:=wrdL s ++ List.replicate ((Qbc 32 s).length - (wrdL s).length) ByteArray.empty
theorem isEmpty_any (x:ByteArray) (W:World):Calls Tryz.prog 37 #[.string x] W fun e w'=>e= .returned (.bool x.toList.isEmpty)∧∃ q,w'=W.drewN q:=by
 go_enter Tryz.func37,Tryz.ntmps37
 go_wp2
 all_goals go_ret
 all_goals exact ⟨by simp_all,0,rfl⟩
theorem words_any (s:ByteArray) (hs:s.size < 4294967281) (w:World) (t:Txt w):
   Calls Tryz.prog 12 #[.string s] w fun e w'=>if Lib.hasPrefix s.data.toList [35]=true then e= .returned (.slice none 0 0)∧w'=w
    else e= .returned (.slice (some ⟨w.heap.size,0,none⟩) (wrdL s).length (Qbc 32 s).length)∧∃ q,w'=Sort.ahead (w.alloc (.cells ((wrdR s).map Value.string).toArray 9)) q:=by
 have hS:=split_any 32 s hs w t
 have hP:=Tryz.strings_HasPrefix s ⟨#[35]⟩ w
 have hl:=Qcy 32 s
 cases hh:Lib.hasPrefix s.data.toList [35] with
 | true=>
   simp only [if_true]
   have hP:Calls Tryz.prog 35 #[.string s,.string ⟨#[35]⟩] w fun e w'=>e= .returned (.bool true)∧w'=w:=by rw [←hh];exact hP
   clear hS hh
   go_enter Tryz.func12,Tryz.ntmps12
   go_wp2_with (go_at_call 35;refine hP.mono ?_;rintro e W1 ⟨rfl,rfl⟩)
   go_ret
   exact ⟨rfl,rfl⟩
 | false=>
   simp only [Bool.false_eq_true,if_false]
   have hP:Calls Tryz.prog 35 #[.string s,.string ⟨#[35]⟩] w fun e w'=>e= .returned (.bool false)∧w'=w:=by rw [←hh];exact hP
   clear hh
   unfold wrdR wrdL
   generalize Qbc 32 s=P at hS hl
   have eg:∀ args w,(callFunc 37 args).run Tryz.prog w= .ok (.enter 37 args) w:=enters_of Tryz.func37 (by kernel_rfl) rfl
   have hD:=Tryz.slices_DeleteFunc Value.string (fun _=>rfl) (fun x=>x.toList.isEmpty) 37 #[] eg ByteArray.empty Tryz.zeroValue9 w.heap.size 0 P.length P.toArray (w.alloc (.cells (P.map Value.string).toArray 9))
    (fun W x _=>isEmpty_any x W) (fun n os dk x _=>isEmpty_any x _) (fun j hj=>by
      have hj:j < P.length:=by simpa using hj
      refine ⟨?_,World.frozen?_alloc_new w _ _ _⟩
      unfold World.cell?
      rw [heap_alloc_new w _]
      simp [hj]) (by simp;omega) (by simp)
   have hD:Calls Tryz.prog _ _ _ _:=hD
   have hw:∀ q,Sort.putRow Value.string (Sort.ahead (w.alloc (.cells (P.map Value.string).toArray 9)) q) w.heap.size 0 (P.filter (fun x=> !x.toList.isEmpty) ++ List.replicate (P.toArray.size - (P.filter fun x=> !x.toList.isEmpty).length) ByteArray.empty).toArray
      =Sort.ahead (w.alloc (.cells ((P.filter (fun x=> !x.toList.isEmpty) ++ List.replicate (P.length - (P.filter fun x=> !x.toList.isEmpty).length) ByteArray.empty).map Value.string).toArray 9)) q:=fun q=>by
    have hle:=List.length_filter_le (fun x:ByteArray=> !x.toList.isEmpty) P
    rw [Sort.putRow_ahead,putRow_alloc _ _ _ _ (by simp;omega)]
    simp
   simp only [hw] at hD
   generalize (P.filter (fun x=> !x.toList.isEmpty) ++ List.replicate (P.length - (P.filter fun x=> !x.toList.isEmpty).length) ByteArray.empty)=R at hD ⊢
   generalize (P.filter fun x=> !x.toList.isEmpty)=Q at hD ⊢
   clear hw
   go_enter Tryz.func12,Tryz.ntmps12
   go_wp2_with (go_at_call 35;refine hP.mono ?_;rintro e W1 ⟨rfl,rfl⟩)
   go_wp2_with (go_at_call 34;refine hS.mono ?_;rintro e W2 ⟨rfl,rfl⟩)
   go_wp2_with (go_at_call 36;refine hD.mono ?_;rintro e W3 ⟨rfl,q,rfl⟩)
   go_ret
   exact ⟨rfl,q,rfl⟩
end Go.Proofs.YtdlmdaononclgaaGreatDoor
namespace Go.Proofs.YtdlmdaononclgaaGreatDoor
open Go.RowKit
set_option linter.unusedVariables false
set_option linter.unusedSimpArgs false
def sx (ss:List ByteArray) (k:Nat):ByteArray:=ss.getD k ByteArray.empty
def strs (ss:List ByteArray):List Value:=ss.map Value.string
def by8 (ss:List ByteArray):List (List UInt8):=ss.map fun x=>x.data.toList
theorem strs_length (ss:List ByteArray):(strs ss).length=ss.length:=List.length_map _
theorem strs_get {ss:List ByteArray} {j:Nat} (h:j < ss.length):(strs ss)[j]? =some (.string (sx ss j)):=by
 simp [strs,sx,List.getD,List.getElem?_eq_getElem h]
theorem RD.strs {w:World} {B:Nat} {A:Option Addr} {ss:List ByteArray} (h:RD w B A (strs ss)) (hp:0 < ss.length):
  ∃ b off,A=some ⟨b,off,none⟩∧b < B∧∀ j,j < ss.length→w.cell? ⟨b,off+j,none⟩=some (.string (sx ss j)):=by
 rcases h with h | ⟨b,off,rfl,hlt,hc⟩
 ·have:=congrArg List.length h;rw [strs_length] at this;simp only [List.length_nil] at this;omega
 ·exact ⟨b,off,rfl,hlt,fun j hj=>hc j _ (strs_get hj)⟩
def allW:List (List UInt8)→Option (List Int)
 | []=>some []
 | x :: l=>match numW x with
   | none=>none
   | some n=>match allW l with
     | none=>none
     | some r=>some (n :: r)
def numsW (word:List UInt8):List (List UInt8)→Option (List Int)
 | []=>none
 | x :: l=>if x=word∧l≠[] then allW l else none
theorem allW_some:∀ {l:List (List UInt8)} {ns:List Int},ns.length=l.length→(∀ j,j < l.length→numW (l.getD j [])=some (ix ns j))→allW l=some ns
 | [],ns,h,_=>by rw [List.eq_nil_of_length_eq_zero h];rfl
 | x :: l,[],h,_=>by simp at h
 | x :: l,n :: ns,h,h2=>by
   have e0:=h2 0 (by simp)
   have e1:allW l=some ns:=allW_some (by simpa using h) fun j hj=>by
    have:=h2 (j+1) (by simpa using hj)
    simpa [ix] using this
   simp only [List.getD_cons_zero] at e0
   have e2:ix (n :: ns) 0=n:=rfl
   rw [e2] at e0
   unfold allW
   rw [e0,e1]
theorem allW_none:∀ {l:List (List UInt8)} (j:Nat),j < l.length→numW (l.getD j [])=none→allW l=none
 | [],j,h,_=>by simp at h
 | x :: l,0,h,h2=>by
   simp only [List.getD_cons_zero] at h2
   unfold allW
   rw [h2]
 | x :: l,j+1,h,h2=>by
   have e:=allW_none (l:=l) j (by simpa using h) (by simpa using h2)
   unfold allW
   rw [e]
   cases numW x <;> rfl
def NumsQ (o:Option (List Int)) (w:World) (e:Ending) (w':World):Prop:=(match o with | some ns=>∃ v,e= .returned v∧OwnI w' w.heap.size v ns | none=>e= .panicked wrongP)∧Below w.heap.size w w'
theorem by8_getD (ss:List ByteArray) (k:Nat):(by8 ss).getD k []=(sx ss k).data.toList:=by
 unfold by8 sx
 simp only [List.getD,List.getElem?_map]
 cases ss[k]? <;> rfl
theorem by8_drop (ss:List ByteArray) (k:Nat):((by8 ss).drop 1).getD k []=(sx ss (k+1)).data.toList:=by
 rw [←by8_getD]
 simp only [List.getD,List.getElem?_drop]
 rw [Nat.add_comm]
theorem numsW_go {ss:List ByteArray} {word:ByteArray} {n:Nat} (hn:ss.length=n) (h2:2≤n) (h0:(sx ss 0).data.toList=word.data.toList):numsW word.data.toList (by8 ss)=allW ((by8 ss).drop 1):=by
 match ss,hn,h0 with
 | [],hn,_=>simp at hn;omega
 | [x],hn,_=>simp at hn;omega
 | x :: y :: l,_,h0=>exact if_pos ⟨h0,by simp⟩
theorem numsW_no {ss:List ByteArray} {word:ByteArray} {n:Nat} (hn:ss.length=n) (h:n < 2∨¬ (sx ss 0).data.toList=word.data.toList):numsW word.data.toList (by8 ss)=none:=by
 match ss,hn,h with
 | [],_,_=>rfl
 | [x],_,_=>exact if_neg fun k=>k.2 rfl
 | x :: y :: l,hn,h=>exact if_neg fun k=>h.elim (fun h=>by simp only [List.length_cons] at hn;omega) fun h=>h k.1
set_option maxHeartbeats 2000000 in
set_option maxRecDepth 10000 in
theorem numbers_any (ss : List ByteArray) (word : ByteArray) {n : Nat} (hn : ss.length = n) (h0 : 0 < n) (hn1 : n ≤ 100000) (hsz : ∀ j, j < n → (sx ss j).size ≤ 100000) (A : Option Addr) (c : Nat) (hc : n ≤ c) (hm : c ≤ 9223372036854775807) (w : World) (t : Txt w) (h : RD w w.heap.size A (strs ss)) :
    Calls Tryz.prog 13 #[.slice A n c, .string word] w (NumsQ (numsW word.data.toList (by8 ss)) w) := by
  obtain ⟨b, off, rfl, hb, hcell⟩ := h.strs (by omega)
  rw [hn] at hcell
  have x0 := hcell 0 h0
  rw [Nat.add_zero] at x0
  have HC := Lib.hid hcell
  have HS := Lib.hid hsz
  have HN := Lib.hid hn
  have HT := Lib.hid t
  clear hcell h hsz hn t
  by_cases hw : (sx ss 0).toList = word.toList
  · have hw' : (sx ss 0).data.toList = word.data.toList := by rw [← ByteArray.toList_eq, ← ByteArray.toList_eq]; exact hw
    by_cases h2 : n < 2
    · have e : numsW word.data.toList (by8 ss) = none := numsW_no HN.out (.inl h2)
      rw [e]
      clear e hw'
      go_enter Tryz.func13, Tryz.ntmps13
      go_wp2
      exact ⟨rfl, rfl, Below.refl _ _⟩
    · have HE : Hid (numsW word.data.toList (by8 ss) = allW ((by8 ss).drop 1)) := Lib.hid (numsW_go HN.out (by omega) hw')
      clear hw'
      go_enter Tryz.func13, Tryz.ntmps13
      go_wp2
      go_loopw [5, 23] (fun v x wr => ∃ (k : Nat) (ns : List Int), k ≤ n - 1 ∧ x = .int .i64 k ∧ OwnI wr w.heap.size v ns ∧ ns.length = k ∧ (∀ j, j < k → numW (sx ss (j + 1)).data.toList = some (ix ns j)) ∧ Below w.heap.size w wr) (fun _ x _ => n - 1 - (intOf x).toNat)
      case atStart => exact ⟨0, [], by omega, rfl, OwnI.nil _ _, rfl, fun j hj => by omega, Below.refl _ _⟩
      case round =>
        obtain ⟨k, ns, hk, rfl, hown, hnl, hns, hB⟩ := hrel
        have HB := Lib.hid hB
        have HO := Lib.hid hown
        have HX := Lib.hid hns
        have HL := Lib.hid hnl
        clear hB hown hns hnl
        by_cases hk' : k < n - 1
        · have y0 := cell_later HB.out (HC.out (k + 1) (by omega))
          rw [show off + (k + 1) = off + 1 + k by omega] at y0
          have hz := HS.out (k + 1) (by omega)
          have NA := number_any (sx ss (k + 1)) (by omega) wr (HT.out.keep HB.out)
          unfold NumQ at NA
          have HNW : Hid (numW (sx ss (k + 1)).data.toList = numW (sx ss (k + 1)).data.toList) := Lib.hid rfl
          obtain ⟨s1, hs1⟩ : ∃ s, sx ss (k + 1) = s := ⟨_, rfl⟩
          have HS1 := Lib.hid hs1
          rw [hs1] at NA y0
          clear hs1 hz
          cases hN : numW s1.data.toList with
          | none =>
            rw [hN] at NA
            have HNN := Lib.hid hN
            clear hN
            go_wp2_with (go_at_call 38; refine NA.mono ?_; rintro e W1 ⟨rfl, hb1⟩)
            refine ⟨rfl, ?_, Qa hb1 HB.out HB.out.size⟩
            rw [HE.out, allW_none k (by rw [List.length_drop]; unfold by8; rw [List.length_map, HN.out]; omega) (by rw [by8_drop, HS1.out]; exact HNN.out)]
          | some z =>
            rw [hN] at NA
            have HNN := Lib.hid hN
            clear hN
            go_wp2_with (first | (go_at_call 38; refine NA.mono ?_; rintro e W1 ⟨rfl, hb1⟩) | (at_builtin; refine Qbz rfl _ _ rfl w.heap.size _ _ rfl (HO.out.kept (Qa (Below.alloc (Below.refl _ _) (Nat.le_refl _) _) hb1 hb1.size) (Nat.le_refl _)) _ 1 _ rfl (Qba _ _ _) (by have := HL.out; omega) (by have := HB.out.size; have := hb1.size; simp; omega) ?_; intro v' w' hown' hgrow; have HOW := Lib.hid hown'; have HGR := Lib.hid hgrow; clear hown' hgrow))
            go_roundw
            case rel =>
              refine ⟨k + 1, ns ++ [z], by omega, by go_num, HOW.out, by rw [List.length_append, HL.out]; rfl, fun j hj => ?_, ?_⟩
              · by_cases ej : j < k
                · rw [HX.out j ej]
                  have : ix (ns ++ [z]) j = ix ns j := by simp [ix, List.getD, List.getElem?_append_left (show j < ns.length by rw [HL.out]; omega)]
                  rw [this]
                · obtain rfl : j = k := by omega
                  rw [HS1.out, HNN.out]
                  have : ix (ns ++ [z]) j = z := by rw [← HL.out]; simp [ix, List.getD]
                  rw [this]
              · exact Qcx (Qa hb1 HB.out HB.out.size) (HO.out.kept hb1 (Nat.le_refl _)) HGR.out
            case measure => simp [intOf]; omega
        · obtain rfl : k = n - 1 := by omega
          go_wp2
          go_ret
          refine ⟨?_, HB.out⟩
          rw [HE.out, allW_some (ns := ns) (by rw [HL.out, List.length_drop]; unfold by8; rw [List.length_map, HN.out]) (fun j hj => by
            rw [List.length_drop] at hj
            unfold by8 at hj
            rw [List.length_map, HN.out] at hj
            rw [by8_drop]
            exact HX.out j (by omega))]
          exact ⟨_, rfl, HO.out⟩
  · have e : numsW word.data.toList (by8 ss) = none := numsW_no HN.out (.inr fun h => hw (by rw [ByteArray.toList_eq, ByteArray.toList_eq]; exact h))
    rw [e]
    clear e
    go_enter Tryz.func13, Tryz.ntmps13
    go_wp2
    exact ⟨rfl, rfl, Below.refl _ _⟩
end Go.Proofs.YtdlmdaononclgaaGreatDoor
namespace Go.Proofs.YtdlmdaononclgaaGreatDoor
open Go.RowKit
set_option linter.unusedVariables false
set_option linter.unusedSimpArgs false
def rowZ (hs:List Int) (m i k:Nat):List Int:=(List.range k).map fun (j:Nat)=>atZ hs ((i:Int) * (m:Int)+(j:Int)) % 20001
theorem Qdp (hs:List Int) (m i k:Nat):(rowZ hs m i k).length=k:=by simp [rowZ]
theorem rowZ_succ (hs:List Int) (m i k:Nat):rowZ hs m i (k+1)=rowZ hs m i k ++ [atZ hs ((i:Int) * (m:Int)+(k:Int)) % 20001]:=by simp [rowZ,List.range_succ]
theorem rowZ_ix {hs:List Int} {m i k j:Nat} (h:j < k):ix (rowZ hs m i k) j=atZ hs ((i:Int) * (m:Int)+(j:Int)) % 20001:=by simp [ix,rowZ,List.getD,h]
theorem rowZ_ok (hs:List Int) (m i:Nat):Qbq m (rowZ hs m i m)=false:=by
 simp only [Qbq,Bool.or_eq_false_iff,Bool.not_eq_false',decide_eq_true_eq]
 refine ⟨Qdp .., anyB_no fun j hj=>?_⟩
 rw [Qdp] at hj
 rw [rowZ_ix hj]
 simp only [badH,Qbt,Bool.not_eq_false',Bool.and_eq_true,decide_eq_true_eq]
 omega
def rowsZ (hs:List Int) (m k:Nat):List (List Int):=(List.range k).map fun i=>rowZ hs m i m
theorem Qbk (hs:List Int) (m k:Nat):(rowsZ hs m k).length=k:=by simp [rowsZ]
theorem rowsZ_succ (hs:List Int) (m k:Nat):rowsZ hs m (k+1)=rowsZ hs m k ++ [rowZ hs m k m]:=by simp [rowsZ,List.range_succ]
theorem rowsZ_rx {hs:List Int} {m k i:Nat} (h:i < k):rx (rowsZ hs m k) i=rowZ hs m i m:=by simp [rx,rowsZ,List.getD,h]
theorem rowsZ_table {xs zs:List Int} (hs:List Int) (h1:OkP 9 100000 xs) (h2:OkP 7 15000 zs):Qav xs zs (rowsZ hs zs.length xs.length)=true:=by
 simp only [Qav,gridB,Bool.and_eq_true,decide_eq_true_eq,Bool.not_eq_true']
 refine ⟨⟨okP_mk h1,okP_mk h2⟩,Qbk .., anyR_no fun j hj=>?_⟩
 rw [Qbk] at hj
 rw [rowsZ_rx hj]
 exact rowZ_ok ..
structure TI (V:World) (s1 s2:Value) (hs:List Int) (m k:Nat) (wr:World):Prop where
 rows:∃ v vs,wr.heap[V.heap.size]? =some (.cells #[s1,s2,v] 26 (0,0))∧RO wr (V.heap.size+1) v vs (rowsZ hs m k)
 below:Below V.heap.size V wr
def RetTb (w:World) (e:Ending) (w':World):Prop:=∃ xs zs rs A1 c1 A2 c2 A3 c3 vs,e= .returned (.agg #[.slice A1 xs.length c1,.slice A2 zs.length c2,.slice A3 rs.length c3])∧TD w' w'.heap.size xs zs rs A1 c1 A2 c2 A3 c3 vs∧Qav xs zs rs=true∧Below w.heap.size w w'
theorem Qay {w:World} {q:Nat} {a b c:Value} {t:TypeId} (h:w.heap[q]? =some (.cells #[a,b,c] t (0,0))):
  w.cell? ⟨q,0,none⟩=some a∧w.cell? ⟨q,1,none⟩=some b∧w.cell? ⟨q,2,none⟩=some c∧(∀ j,w.frozen? ⟨q,j,none⟩=false)∧q < w.heap.size:=by
 refine ⟨?_,?_,?_,fun j=>by simp [World.frozen?, h],(Array.getElem?_eq_some_iff.1 h).1⟩ <;> (rw [cell_of_row _ q _ _ _ _ h];rfl)
theorem set3 {w:World} {q:Nat} {a b c v:Value} {t:TypeId} (h:w.heap[q]? =some (.cells #[a,b,c] t (0,0))):(w.setCell ⟨q,2,none⟩ v).heap[q]? =some (.cells #[a,b,v] t (0,0)):=by
 simp [World.setCell,Array.getElem?_modify,h]
theorem RO.set_box {w:World} {base q:Nat} {v u:Value} {vs:List Value} {rs:List (List Int)} (h:RO w base v vs rs) (hq:q < base) (j:Nat):RO (w.setCell ⟨q,j,none⟩ u) base v vs rs:=by
 have hk:∀ b,base≤b→(w.setCell ⟨q,j,none⟩ u).heap[b]? =w.heap[b]? :=fun b hb=>Below.heap_setCell _ _ _ _ (show b≠q by omega)
 refine ⟨⟨h.own.1,?_⟩,h.len,fun i hi=>(h.each i hi).of_block (fun b hb=>hk b ((h.each i hi).at_block hb).1)⟩
 rcases h.own.2 with hn | ⟨g,cap,cur,rfl,h1,hg,rest⟩
 ·exact .inl hn
 ·exact .inr ⟨g,cap,cur,rfl,h1,(hk g h1).trans hg,rest⟩
theorem OwnR.formN {w:World} {base:Nat} {v:Value} {vs:List Value} (h:OwnR w base v vs) {n:Nat} (hn:vs.length=n):∃ A cap,v= .slice A n cap∧n≤cap:=by
 subst hn
 obtain ⟨A,cap,rfl,h1,_⟩:=h.form
 exact ⟨A,cap,rfl,h1⟩
theorem grow_box {q base:Nat} {wr Wi W':World} {s1 s2 v:Value} {vs:List Value} {t:TypeId} {o:Obj} (hbox:wr.heap[q]? =some (.cells #[s1,s2,v] t (0,0))) (hown:OwnR wr base v vs) (hqb:q < base) (hbi:Below wr.heap.size wr Wi) (hg:(Wi.alloc o).grownBy W' v.ownBlock):
  W'.heap[q]? =some (.cells #[s1,s2,v] t (0,0)):=by
 have hq:=(Array.getElem?_eq_some_iff.1 hbox).1
 obtain ⟨_,_,_,_,_,_,hv⟩:=hown.form
 rw [hg.block _ (by rw [World.size_alloc];have:=hbi.size;omega) (fun e=>by have:=hv _ e.symm;omega),Below.heap_alloc _ _ _ (by have:=hbi.size;omega),hbi.block _ hq]
 exact hbox
theorem own_set3 {w:World} {base q:Nat} {v:Value} {xs:List Int} (h:OwnI w base v xs) (hq:q < base) (a b c:Value):OwnI (((w.setCell ⟨q,0,none⟩ a).setCell ⟨q,1,none⟩ b).setCell ⟨q,2,none⟩ c) base v xs:=
 h.of_block (fun k hk=>by
  have hne:k≠q:=by have:=(h.at_block hk).1;omega
  rw [Below.heap_setCell _ _ _ _ hne,Below.heap_setCell _ _ _ _ hne,Below.heap_setCell _ _ _ _ hne])
theorem TI.next {V wr Wi W':World} {s1 s2 v v' u:Value} {hs:List Int} {m k:Nat} {vs:List Value} {o:Obj} (hbox:wr.heap[V.heap.size]? =some (.cells #[s1,s2,v] 26 (0,0))) (hro:RO wr (V.heap.size+1) v vs (rowsZ hs m k)) (hB:Below V.heap.size V wr)
  (hr:OwnI Wi wr.heap.size u (rowZ hs m k m)) (hbi:Below wr.heap.size wr Wi) (hg:(Wi.alloc o).grownBy W' v.ownBlock) (ho:OwnR W' (V.heap.size+1) v' (vs ++ [u])):TI V s1 s2 hs m (k+1) (W'.setCell ⟨V.heap.size,2,none⟩ v'):=by
 have hq:=(Array.getElem?_eq_some_iff.1 hbox).1
 have hro':=hro.kept hbi (Nat.le_refl _)
 have hvb:∀ b,v.ownBlock=some b→V.heap.size+1≤b:=fun b hb=>by
  obtain ⟨_,_,_,_,_,_,h⟩:=hro.own.form
  exact (h b hb).1
 have hbox':W'.heap[V.heap.size]? =some (.cells #[s1,s2,v] 26 (0,0)):=by
  rw [hg.block _ (by rw [World.size_alloc];have:=hbi.size;omega) (fun e=>by have:=hvb _ e.symm;omega),Below.heap_alloc _ _ _ (by have:=hbi.size;omega),hbi.block _ hq]
  exact hbox
 refine ⟨⟨v',vs ++ [u],set3 hbox',?_⟩,?_⟩
 ·rw [rowsZ_succ]
  exact (hro'.push (hr.less (by omega)) hg ho).set_box (by omega) 2
 ·have h1:Below V.heap.size V Wi:=hB.trans (hbi.mono (by omega))
  have h2:Below V.heap.size V (Wi.alloc o):=h1.alloc h1.size o
  exact (h2.grown hg (by have:=h2.size;omega) (fun b hb=>by have:=hvb b hb;omega)).setCell (Nat.le_refl _) _
set_option maxHeartbeats 4000000 in
set_option maxRecDepth 10000 in
theorem Table_any (sx zx hs:List Int) (A1:Option Addr) (c1:Nat) (A2:Option Addr) (c2:Nat) (A3:Option Addr) (c3:Nat) (hc1:sx.length≤c1) (hm1:c1≤17592186043904) (hc2:zx.length≤c2) (hm2:c2≤17592186043904) (hc3:hs.length≤c3) (hm3:c3≤17592186043904) (w:World)
  (h1:RD w w.heap.size A1 (ints sx)) (h2:RD w w.heap.size A2 (ints zx)) (h3:RD w w.heap.size A3 (ints hs)) (bd1:∀ j, -9223372036854775808≤ix sx j∧ix sx j≤9223372036854775807) (bd2:∀ j, -9223372036854775808≤ix zx j∧ix zx j≤9223372036854775807) (bd3:∀ j, -9223372036854775808≤ix hs j∧ix hs j≤9223372036854775807):
  Calls Tryz.prog 7 #[.slice A1 sx.length c1,.slice A2 zx.length c2,.slice A3 hs.length c3] w (RetTb w):=by
 have P1:Hid (∀ W,Below w.heap.size w W→Calls Tryz.prog 21 #[.slice A1 sx.length c1,.int .i64 9,.int .i64 3000] W (RetPl 9 3000 W)):=Lib.hid (fun W hb=>Places_any sx A1 c1 9 3000 (by omega) (by omega) (by omega) (by omega) hc1 hm1 W ((h1.keep hb (Nat.le_refl _)).more hb.size) bd1)
 have P2:Hid (∀ W,Below w.heap.size w W→Calls Tryz.prog 21 #[.slice A2 zx.length c2,.int .i64 7,.int .i64 600] W (RetPl 7 600 W)):=Lib.hid (fun W hb=>Places_any zx A2 c2 7 600 (by omega) (by omega) (by omega) (by omega) hc2 hm2 W ((h2.keep hb (Nat.le_refl _)).more hb.size) bd2)
 have H3:=Lib.hid h3
 have B3:=Lib.hid bd3
 clear h1 h2 h3 bd1 bd2 bd3
 go_enter Tryz.func7,Tryz.ntmps7
 go_wp2_with fail
 refine (P1.out _ (Below.alloc (Below.refl _ _) (Nat.le_refl _) _)).mono ?_
 rintro e V1 ⟨ps,v1,rfl,ho1,hp1,hl1,hb1⟩
 obtain ⟨q1,k1,rfl,hk1,hkm1,_⟩:=ho1.formN rfl
 have hbV1:Below w.heap.size w V1:=Qa hb1 (Below.alloc (Below.refl _ _) (Nat.le_refl _) _) (by simp)
 have hbx:V1.heap[w.heap.size]? =some (.cells #[.slice none 0 0,.slice none 0 0,.slice none 0 0] 26 (0,0)):=by
  rw [hb1.block _ (by simp)];exact heap_alloc_new w _
 have HBX:=Lib.hid hbx
 have HO1:=Lib.hid ho1
 have HP1:=Lib.hid hp1
 have HB1:=Lib.hid hbV1
 have HS1:=Lib.hid hb1.size
 clear hbx ho1 hp1 hbV1 hb1
 go_wp2_with fail
 refine (P2.out _ HB1.out).mono ?_
 rintro e V2 ⟨zs,v2,rfl,ho2,hp2,hl2,hb2⟩
 obtain ⟨q2,k2,rfl,hk2,hkm2,_⟩:=ho2.formN rfl
 have n9:ps.length≤9:=by have:=HP1.out.many;omega
 have m7:zs.length≤7:=by have:=hp2.many;omega
 have T1:Hid (OkP 9 100000 ps):=Lib.hid (HP1.out.okP hl1 (by omega) (by omega))
 have T2:Hid (OkP 7 15000 zs):=Lib.hid (hp2.okP hl2 (by omega) (by omega))
 have hbx2:V2.heap[w.heap.size]? =some (.cells #[.slice none 0 0,.slice none 0 0,.slice none 0 0] 26 (0,0)):=by
  rw [hb2.block _ (Array.getElem?_eq_some_iff.1 HBX.out).1];exact HBX.out
 have hz:w.heap.size < V2.heap.size:=(Array.getElem?_eq_some_iff.1 hbx2).1
 have HBX2:=Lib.hid hbx2
 have HO1':=Lib.hid (HO1.out.kept hb2 (Nat.le_refl _))
 have HO2:=Lib.hid ho2
 have HB2:=Lib.hid (Qa hb2 HB1.out HB1.out.size)
 have hz1:w.heap.size < V1.heap.size:=by have:=HS1.out;simp only [World.size_alloc] at this;omega
 clear hbx2 HBX HO1 HP1 hp2 ho2 hb2 HB1 HS1 P1 P2
 obtain ⟨n,hn⟩:∃ n,ps.length=n:=⟨_,rfl⟩
 obtain ⟨m,hm⟩:∃ m,zs.length=m:=⟨_,rfl⟩
 have HN:=Lib.hid hn
 have HM:=Lib.hid hm
 rw [hn] at hl1 n9 hk1
 rw [hm] at hl2 m7 hk2
 rw [hn,hm]
 clear hn hm
 go_wp2
 go_loopw [8] (fun x wr=>∃ k:Nat,k≤n∧x= .int .i64 k∧TI V2 (.slice q1 n k1) (.slice q2 m k2) hs m k wr) (fun x _=>n - (intOf x).toNat)
 case atStart=>exact ⟨0,by omega,rfl,⟨⟨.slice none 0 0,[],heap_alloc_new V2 _,RO.nil _ _⟩,Below.alloc (Below.refl _ _) (Nat.le_refl _) _⟩⟩
 case round=>
  obtain ⟨k,hk,rfl,hti⟩:=hrel
  obtain ⟨⟨v,vs,hbox,hro⟩,hB⟩:=hti
  obtain ⟨d0,d1,d2,df,dq⟩:=Qay hbox
  have df2:=df 2
  have HBOX:=Lib.hid hbox
  have HRO:=Lib.hid hro
  have HB:=Lib.hid hB
  clear hbox hro hB df
  by_cases hk':k < n
  · obtain ⟨wo,rfl⟩:∃ wo:World,wo=wr:=⟨_,rfl⟩
    go_wp2
    go_loopw [9,10] (fun v9 x wr'=>∃ j:Nat,j≤m∧x= .int .i64 j∧OwnI wr' wo.heap.size v9 (rowZ hs m k j)∧Below wo.heap.size wo wr') (fun _ x _=>m - (intOf x).toNat)
    case atStart=>exact ⟨0,by omega,rfl,OwnI.nil _ _,Below.refl _ _⟩
    case round=>
     obtain ⟨j,hj,rfl,hown,hbl⟩:=hrel
     have e0:=cell_later hbl d0
     have e1:=cell_later hbl d1
     have e2:=cell_later hbl d2
     have ez:=hbl.size
     have ef:wr.frozen? ⟨V2.heap.size,2,none⟩=false:=by rw [hbl.frozen (p:=⟨V2.heap.size,2,none⟩) dq];exact df2
     have HO:=Lib.hid hown
     have HL:=Lib.hid hbl
     clear hown hbl
     by_cases hj':j < m
     ·obtain ⟨p0,p1⟩:=mulbd (x:=(k:Int)) (y:=(m:Int)) (M:=9) (N:=7) (by omega) (by omega) (by omega) (by omega)
      have w1:IntKind.i64.wrap ((k:Int) * (m:Int))=(k:Int) * (m:Int):=IntWalk.i64_in _ ⟨by omega,by omega⟩
      have w2:IntKind.i64.wrap ((k:Int) * (m:Int)+(j:Int))=(k:Int) * (m:Int)+(j:Int):=IntWalk.i64_in _ ⟨by omega,by omega⟩
      obtain ⟨a,ha⟩:∃ a,atZ hs ((k:Int) * (m:Int)+(j:Int))=a:=⟨_,rfl⟩
      obtain ⟨a0,a1⟩:=atZ_bd (i:=(k:Int) * (m:Int)+(j:Int)) B3.out
      rw [ha] at a0 a1
      obtain ⟨r,hr⟩:∃ r,a % 20001=r:=⟨_,rfl⟩
      have HAT:Hid (∀ W,Below wo.heap.size wo W→Calls Tryz.prog 23 #[.slice A3 hs.length c3,.int .i64 ((k:Int) * (m:Int)+(j:Int))] W fun e w'=>e= .returned (.int .i64 a)∧W=w'):=Lib.hid (fun W hb=>At_is ha A3 c3 (by omega) (by omega) hc3 hm3 W (H3.out.keep (Qa (Qa hb HB.out HB.out.size) HB2.out HB2.out.size) (Nat.le_refl _)))
      have HMD:Hid (∀ W,Calls Tryz.prog 22 #[.int .i64 a,.int .i64 20001] W fun e w'=>e= .returned (.int .i64 r)∧W=w'):=Lib.hid (mod_is hr a0 a1 (by omega) (by omega))
      have HR:=Lib.hid (show rowZ hs m k (j+1)=rowZ hs m k j ++ [r] by rw [rowZ_succ,ha,hr])
      have hml:(rowZ hs m k j).length≤1000000:=by rw [Qdp];omega
      clear ha hr p0 p1 a0 a1
      go_wp2_with (first | (go_at_call 23;(with_reducible refine (HAT.out _ HL.out).mono ?_);rintro e w' ⟨rfl,rfl⟩) | (go_at_call 22;(with_reducible refine (HMD.out _).mono ?_);rintro e w' ⟨rfl,rfl⟩) | (at_builtin;refine Qbz rfl _ _ rfl wo.heap.size _ _ rfl (HO.out.kept (by repeat' (first | (with_reducible exact Below.refl _ _) | (with_reducible assumption) | (refine Qa (by assumption) ?_ ?_) | (with_reducible refine Qaa ?_ _) | (with_reducible refine Below.drew ?_) | (with_reducible refine Below.alloc ?_ ?_ _) | (with_reducible refine Below.setCell ?_ ?_ _) | go_size)) (Nat.le_refl _)) wr.heap.size 1 _ rfl (Qba _ _ _) hml (by simp;omega) ?_;intro v' w' hown' hgrow;replace hgrow:=Qcx HL.out HO.out hgrow))
      go_roundw
      case rel=>exact ⟨j+1,by omega,by go_num,by rw [HR.out];exact hown',hgrow⟩
      case measure=>simp [intOf];omega
     ·obtain rfl:j=m:=by omega
      obtain ⟨A9,c9,rfl,_,_,_⟩:=HO.out.formN (Qdp hs j k j)
      have hvl:vs.length≤1000000:=by rw [HRO.out.len,Qbk];omega
      go_wp2_with (at_builtin;refine wpList_appR rfl _ _ rfl (V2.heap.size+1) _ _ rfl (HRO.out.own.kept (Qa (Below.alloc (Below.refl _ _) (Nat.le_refl _) _) HL.out HL.out.size) (Nat.le_refl _)) wr.heap.size 1 _ _ _ rfl (Qba _ _ _) hvl (by simp;omega) ?_;intro v' w' hown' hgrow;obtain ⟨Ah,ch,rfl,_⟩:=hown'.formN (n:=vs.length+1) (by simp);obtain ⟨_,_,_,df',dq'⟩:=Qay (grow_box HBOX.out HRO.out.own (by omega) HL.out hgrow);have df2':=df' 2;have HG:=Lib.hid hgrow;have HW:=Lib.hid hown';clear hgrow hown' df')
      go_roundw
      case rel=>exact ⟨k+1,by omega,by go_num,TI.next HBOX.out HRO.out HB.out HO.out HL.out HG.out HW.out⟩
      case measure=>simp [intOf];omega
  · obtain rfl:k=n:=by omega
    obtain ⟨A3',c3',rfl,hc3',hm3',hrr⟩:=HRO.out.rr (Qbk hs m k)
    have f0:wr.heap[w.heap.size]? =some (.cells #[.slice none 0 0,.slice none 0 0,.slice none 0 0] 26 (0,0)):=by rw [HB.out.block _ hz];exact HBX2.out
    obtain ⟨g0,g1,g2,ff,fq⟩:=Qay f0
    have f1:=ff 0
    have f2:=ff 1
    have f3:=ff 2
    have HF:=Lib.hid f0
    have hrr':=Lib.hid hrr
    clear f0 ff hrr
    go_wp2
    refine bodyPost_ret (by simp [results,Tryz.results7,go_sem, *];try rfl) rfl ?_
    have hn:=HN.out
    have hm:=HM.out
    subst hn
    subst hm
    have o1:=own_set3 (q:=w.heap.size) (HO1'.out.kept HB.out (Nat.le_refl _)) (by simp) (.slice q1 ps.length k1) (.slice q2 zs.length k2) (.slice A3' ps.length c3')
    have o2:=own_set3 (q:=w.heap.size) (HO2.out.kept HB.out (Nat.le_refl _)) hz1 (.slice q1 ps.length k1) (.slice q2 zs.length k2) (.slice A3' ps.length c3')
    obtain ⟨_,_,e1,_,_,r1,_⟩:=o1.form
    obtain ⟨_,_,e2,_,_,r2,_⟩:=o2.form
    cases e1
    cases e2
    have o3:=((HRO.out.set_box (u:=.slice q1 ps.length k1) (show w.heap.size < V2.heap.size+1 by omega) 0).set_box (u:=.slice q2 zs.length k2) (show w.heap.size < V2.heap.size+1 by omega) 1).set_box (u:=.slice A3' ps.length c3') (show w.heap.size < V2.heap.size+1 by omega) 2
    obtain ⟨_,_,e3,h31,h32,r3⟩:=o3.rr (Qbk hs zs.length ps.length)
    cases e3
    refine ⟨ps,zs,rowsZ hs zs.length ps.length,q1,k1,q2,k2,A3',c3',vs,by rw [Qbk],⟨hk1,hkm1,r1,hk2,hkm2,r2,by rw [Qbk];exact h31,h32,r3⟩,rowsZ_table hs T1.out T2.out,?_⟩
    have hbw:Below w.heap.size w wr:=Qa HB.out HB2.out HB2.out.size
    repeat' (first | (with_reducible exact Below.refl _ _) | (with_reducible assumption) | (refine Qa (by assumption) ?_ ?_) | (with_reducible refine Qaa ?_ _) | (with_reducible refine Below.drew ?_) | (with_reducible refine Below.alloc ?_ ?_ _) | (with_reducible refine Below.setCell ?_ ?_ _) | go_size)
end Go.Proofs.YtdlmdaononclgaaGreatDoor
namespace Go.Proofs.YtdlmdaononclgaaGreatDoor
open Go.RowKit
set_option linter.unusedVariables false
set_option linter.unusedSimpArgs false
structure PSt where
 sta:List Int
 wat:Option (List Int)
 hal:List (List Int)
def stepW (st:PSt) (ws:List (List UInt8)):Option PSt:=
 match ws with
 | []=>some st
 | _ :: _=>match st.wat with
   | none=>match numsW Qaq ws with
     | none=>none
     | some n=>some {st with wat:=some n}
   | some z=>match numsW Qal ws with
     | none=>none
     | some l=>if l.length=1+z.length then some {st with sta:=st.sta ++ [ix l 0],hal:=st.hal ++ [l.drop 1]} else none
def runW:Nat→List (List (List UInt8))→PSt→Nat ⊕ PSt
 | _,[],st=>.inr st
 | k,ws :: r,st=>match stepW st ws with
   | none=>.inl (k+1)
   | some s=>runW (k+1) r s
def NX (q:Nat) (vS vH:Value) (r:Nat):Prop:=q < r∧vS.ownBlock≠some r∧vH.ownBlock≠some r
structure Up (q:Nat) (vS vH vS' vH':Value) (W W':World):Prop where
 keep:∀ b,b < W.heap.size→NX q vS vH b→W'.heap[b]? =W.heap[b]? ∧NX q vS' vH' b
 size:W.heap.size≤W'.heap.size
def RX (q:Nat) (vS vH:Value) (w:World) (A:Option Addr) (cs:List Value):Prop:=RD w w.heap.size A cs∧∀ a,A=some a→a.block < w.heap.size∧NX q vS vH a.block
def SX (q:Nat) (vS vH:Value) (w:World) (v:Value) (xs:List Int):Prop:=∃ A c,v= .slice A xs.length c∧xs.length≤c∧c≤9223372036854775807∧RX q vS vH w A (ints xs)
theorem RX.up {q:Nat} {vS vH vS' vH':Value} {W W':World} {A:Option Addr} {cs:List Value} (h:RX q vS vH W A cs) (u:Up q vS vH vS' vH' W W'):RX q vS' vH' W' A cs:=by
 obtain ⟨h1,h2⟩:=h
 refine ⟨?_,fun a ha=>⟨Nat.lt_of_lt_of_le (h2 a ha).1 u.size,(u.keep _ (h2 a ha).1 (h2 a ha).2).2⟩⟩
 rcases h1 with h1 | ⟨b,off,rfl,hlt,hc⟩
 ·exact .inl h1
 ·refine .inr ⟨b,off,rfl,Nat.lt_of_lt_of_le hlt u.size,fun j v hv=>?_⟩
  rw [World.cell?_of_block (w:=W) (a:=⟨b,off+j,none⟩) (u.keep b hlt (h2 _ rfl).2).1]
  exact hc j v hv
theorem SX.up {q:Nat} {vS vH vS' vH':Value} {W W':World} {v:Value} {xs:List Int} (h:SX q vS vH W v xs) (u:Up q vS vH vS' vH' W W'):SX q vS' vH' W' v xs:=by
 obtain ⟨A,c,rfl,h1,h2,h3⟩:=h
 exact ⟨A,c,rfl,h1,h2,h3.up u⟩
theorem SX.sl {q:Nat} {vS vH:Value} {W:World} {v:Value} {xs:List Int} (h:SX q vS vH W v xs):SL W W.heap.size v xs:=by
 obtain ⟨A,c,rfl,h1,h2,h3⟩:=h
 exact ⟨A,c,rfl,h1,h2,h3.1⟩
theorem Up.of_below {q:Nat} {vS vH:Value} {W W':World} (h:Below W.heap.size W W'):Up q vS vH vS vH W W':=⟨fun b hb hn=>⟨h.block b hb,hn⟩,h.size⟩
def WatQ (q:Nat) (vS vH:Value) (w:World) (v:Value):Option (List Int)→Prop
 | none=>v= .slice none 0 0
 | some z=>∃ a n c,v= .slice (some a) n c∧SX q vS vH w v z
structure PS (q:Nat) (w:World) (vS vW vH:Value) (vs:List Value) (st:PSt):Prop where
 box:w.heap[q]? =some (.cells #[vS,vW,vH] 26 (0,0))
 own:OwnI w (q+1) vS st.sta
 ownH:OwnR w (q+1) vH vs
 len:vs.length=st.hal.length
 each:∀ i,i < st.hal.length→SX q vS vH w (vx vs i) (rx st.hal i)
 wat:WatQ q vS vH w vW st.wat
theorem WatQ.up {q:Nat} {vS vH vS' vH':Value} {W W':World} {v:Value}:∀ {o:Option (List Int)},WatQ q vS vH W v o→Up q vS vH vS' vH' W W'→WatQ q vS' vH' W' v o
 | none,h,_=>h
 | some z,⟨a,n,c,e,h⟩,u=>⟨a,n,c,e,h.up u⟩
theorem PS.lt {q:Nat} {w:World} {vS vW vH:Value} {vs:List Value} {st:PSt} (h:PS q w vS vW vH vs st):q < w.heap.size:=(Array.getElem?_eq_some_iff.1 h.box).1
theorem OwnR.at_block {w:World} {base:Nat} {v:Value} {vs:List Value} (h:OwnR w base v vs) {b:Nat} (hb:v.ownBlock=some b):base≤b∧b < w.heap.size:=by
 obtain ⟨_,_,_,_,_,_,h2⟩:=h.form
 exact h2 b hb
theorem OwnR.of_block {w w':World} {base:Nat} {v:Value} {vs:List Value} (h:OwnR w base v vs) (hb:∀ b,v.ownBlock=some b→w'.heap[b]? =w.heap[b]?):OwnR w' base v vs:=by
 refine ⟨h.1,?_⟩
 rcases h.2 with hn | ⟨g,cap,cur,rfl,h1,hg,rest⟩
 ·exact .inl hn
 ·exact .inr ⟨g,cap,cur,rfl,h1,(hb g rfl).trans hg,rest⟩
theorem kinds_ne {w:World} {base base':Nat} {v u:Value} {xs:List Int} {vs:List Value} (h:OwnI w base v xs) (k:OwnR w base' u vs) {b:Nat} (hb:v.ownBlock=some b):u.ownBlock≠some b:=fun e=>by
 obtain ⟨c1,h1⟩:=h.kind hb
 obtain ⟨c2,h2⟩:=k.kind e
 rw [h1] at h2
 simp only [Option.some.injEq,Obj.cells.injEq] at h2
 exact absurd h2.2.1 (by decide)
theorem PS.below {q:Nat} {w w':World} {vS vW vH:Value} {vs:List Value} {st:PSt} (h:PS q w vS vW vH vs st) (hb:Below w.heap.size w w'):PS q w' vS vW vH vs st:=
 ⟨(hb.block q h.lt).trans h.box,h.own.kept hb (Nat.le_refl _),h.ownH.kept hb (Nat.le_refl _),h.len,fun i hi=>(h.each i hi).up (.of_below hb),h.wat.up (.of_below hb)⟩
theorem PS.fresh {q:Nat} {w w':World} {vS vW vH:Value} {vs:List Value} {st:PSt} (h:PS q w vS vW vH vs st) (hb:Below w.heap.size w w') {v:Value} {xs:List Int} (hv:OwnI w' w.heap.size v xs):SX q vS vH w' v xs:=by
 obtain ⟨A,cap,rfl,h1,h2,h3,h4,h5⟩:=hv.form
 refine ⟨A,cap,rfl,h1,h2,h3,fun a ha=>?_⟩
 subst ha
 have hob:(Value.slice (some a) xs.length cap).ownBlock=some a.block∨xs=[]∧False:=by
  rcases hv.2 with ⟨e,_⟩ | ⟨g,cap',cur,e,_⟩
  ·cases e
  ·cases e;exact .inl rfl
 rcases hob with hob | ⟨_,e⟩
 ·obtain ⟨l1,l2⟩:=h5 _ hob
  refine ⟨l2,by have:=h.lt;omega,fun e=>?_,fun e=>?_⟩
  ·have:=(h.own.at_block e).2;omega
  ·have:=(h.ownH.at_block e).2;omega
 ·cases e
theorem SX.drop {q:Nat} {vS vH:Value} {w:World} {b o n c:Nat} {xs:List Int} (h:SX q vS vH w (.slice (some ⟨b,o,none⟩) n c) xs) (hn:1≤n):SX q vS vH w (.slice (some ⟨b,o+1,none⟩) (n - 1) (c - 1)) (xs.drop 1):=by
 obtain ⟨A,c',e,h1,h2,h3,h4⟩:=h
 simp only [Value.slice.injEq] at e
 obtain ⟨rfl,rfl,rfl⟩:=e
 refine ⟨_,c - 1,by rw [List.length_drop],by rw [List.length_drop];omega,by omega,?_,fun a ha=>by cases ha;exact h4 ⟨b,o,none⟩ rfl⟩
 rcases h3 with h3 | ⟨b',o',e,hlt,hc⟩
 ·left
  have:=congrArg List.length h3
  rw [Qdf] at this
  simp only [List.length_nil] at this
  omega
 ·cases e
  refine .inr ⟨b,o+1,rfl,hlt,fun j v hv=>?_⟩
  have:=hc (j+1) v (by
   rw [ints_get,List.getElem?_drop] at hv
   rw [ints_get,Nat.add_comm];exact hv)
  rw [show o+1+j=o+(j+1) by omega]
  exact this
theorem Up.sta {q:Nat} {vS vH vS' u:Value} {W W':World} {o:Obj} {j:Nat} (hq:q < W.heap.size) (hg:(W.alloc o).grownBy W' vS.ownBlock) (hob:vS'.ownBlock=vS.ownBlock∨vS'.ownBlock=some (W.alloc o).heap.size):Up q vS vH vS' vH W (W'.setCell ⟨q,j,none⟩ u):=by
 have hs:(W.alloc o).heap.size≤W'.heap.size:=hg.size
 rw [World.size_alloc] at hs hob
 refine ⟨fun b hb ⟨n1,n2,n3⟩=>⟨?_,n1,?_,n3⟩,by simp [World.setCell];omega⟩
 ·rw [Below.heap_setCell _ _ _ _ (show b≠q by omega),hg.block b (by rw [World.size_alloc];omega) (fun e=>n2 e.symm),Below.heap_alloc _ _ _ hb]
 ·rcases hob with e | e
  ·rw [e];exact n2
  ·rw [e];intro h;cases h;omega
theorem Up.hal {q:Nat} {vS vH vH' u:Value} {W W':World} {o:Obj} {j:Nat} (hq:q < W.heap.size) (hg:(W.alloc o).grownBy W' vH.ownBlock) (hob:vH'.ownBlock=vH.ownBlock∨vH'.ownBlock=some (W.alloc o).heap.size):Up q vS vH vS vH' W (W'.setCell ⟨q,j,none⟩ u):=by
 have hs:(W.alloc o).heap.size≤W'.heap.size:=hg.size
 rw [World.size_alloc] at hs hob
 refine ⟨fun b hb ⟨n1,n2,n3⟩=>⟨?_,n1,n2,?_⟩,by simp [World.setCell];omega⟩
 ·rw [Below.heap_setCell _ _ _ _ (show b≠q by omega),hg.block b (by rw [World.size_alloc];omega) (fun e=>n3 e.symm),Below.heap_alloc _ _ _ hb]
 ·rcases hob with e | e
  ·rw [e];exact n3
  ·rw [e];intro h;cases h;omega
theorem Qcu {W:World} {q j:Nat} {cs:Array Value} {t:TypeId} {fr:Nat × Nat} (h:W.heap[q]? =some (.cells cs t fr)) (v:Value):(W.setCell ⟨q,j,none⟩ v).heap[q]? =some (.cells (cs.setIfInBounds j v) t fr):=by
 simp [World.setCell,Array.getElem?_modify,h]
theorem PS.sta {q:Nat} {W W':World} {vS vW vH vS':Value} {vs:List Value} {st:PSt} {o:Obj} {y:Int} (h:PS q W vS vW vH vs st) (hg:(W.alloc o).grownBy W' vS.ownBlock) (ho:OwnI W' (q+1) vS' (st.sta ++ [y])) (hob:vS'.ownBlock=vS.ownBlock∨vS'.ownBlock=some (W.alloc o).heap.size):
  PS q (W'.setCell ⟨q,0,none⟩ vS') vS' vW vH vs {st with sta:=st.sta ++ [y]}∧Up q vS vH vS' vH W (W'.setCell ⟨q,0,none⟩ vS'):=by
 have hu:Up q vS vH vS' vH W (W'.setCell ⟨q,0,none⟩ vS'):=Up.sta h.lt hg hob
 have hq:vS.ownBlock≠some q:=fun e=>by have:=(h.own.at_block e).1;omega
 have hbx:W'.heap[q]? =some (.cells #[vS,vW,vH] 26 (0,0)):=by
  rw [hg.block q (by rw [World.size_alloc];have:=h.lt;omega) (fun e=>hq e.symm),Below.heap_alloc _ _ _ h.lt];exact h.box
 refine ⟨⟨Qcu hbx _,ho.of_block (fun b hb=>Below.heap_setCell _ _ _ _ (show b≠q by have:=(ho.at_block hb).1;omega)),h.ownH.of_block (fun b hb=>?_),h.len,fun i hi=>(h.each i hi).up hu,h.wat.up hu⟩,hu⟩
 have h1:=h.ownH.at_block hb
 rw [Below.heap_setCell _ _ _ _ (show b≠q by omega),hg.block b (by rw [World.size_alloc];omega) (fun e=>kinds_ne h.own h.ownH e.symm hb),Below.heap_alloc _ _ _ h1.2]
theorem PS.hal {q:Nat} {W W':World} {vS vW vH vH' u:Value} {vs:List Value} {st:PSt} {o:Obj} {r:List Int} (h:PS q W vS vW vH vs st) (hr:SX q vS vH W u r) (hg:(W.alloc o).grownBy W' vH.ownBlock) (ho:OwnR W' (q+1) vH' (vs ++ [u])) (hob:vH'.ownBlock=vH.ownBlock∨vH'.ownBlock=some (W.alloc o).heap.size):
  PS q (W'.setCell ⟨q,2,none⟩ vH') vS vW vH' (vs ++ [u]) {st with hal:=st.hal ++ [r]}∧Up q vS vH vS vH' W (W'.setCell ⟨q,2,none⟩ vH'):=by
 have hu:Up q vS vH vS vH' W (W'.setCell ⟨q,2,none⟩ vH'):=Up.hal h.lt hg hob
 have hq:vH.ownBlock≠some q:=fun e=>by have:=(h.ownH.at_block e).1;omega
 have hbx:W'.heap[q]? =some (.cells #[vS,vW,vH] 26 (0,0)):=by
  rw [hg.block q (by rw [World.size_alloc];have:=h.lt;omega) (fun e=>hq e.symm),Below.heap_alloc _ _ _ h.lt];exact h.box
 refine ⟨⟨Qcu hbx _,h.own.of_block (fun b hb=>?_),ho.of_block (fun b hb=>Below.heap_setCell _ _ _ _ (show b≠q by have:=(ho.at_block hb).1;omega)),by simp [h.len],fun i hi=>?_,h.wat.up hu⟩,hu⟩
 ·have h1:=h.own.at_block hb
  rw [Below.heap_setCell _ _ _ _ (show b≠q by omega),hg.block b (by rw [World.size_alloc];omega) (fun e=>kinds_ne h.own h.ownH hb e.symm),Below.heap_alloc _ _ _ h1.2]
 ·have hl:=h.len
  simp only [List.length_append,List.length_cons,List.length_nil] at hi
  by_cases e:i < st.hal.length
  ·have e1:vx (vs ++ [u]) i=vx vs i:=by simp [vx,List.getD,List.getElem?_append_left (show i < vs.length by omega)]
   have e2:rx (st.hal ++ [r]) i=rx st.hal i:=by simp [rx,List.getD,List.getElem?_append_left e]
   rw [e1,e2]
   exact (h.each i e).up hu
  ·obtain rfl:i=st.hal.length:=by omega
   have e1:vx (vs ++ [u]) st.hal.length=u:=by rw [←hl];simp [vx,List.getD]
   have e2:rx (st.hal ++ [r]) st.hal.length=r:=by simp [rx,List.getD]
   rw [e1,e2]
   exact hr.up hu
theorem PS.put {q:Nat} {W:World} {vS vW vH:Value} {vs:List Value} {st:PSt} {a:Addr} {n c:Nat} {z:List Int} (h:PS q W vS vW vH vs st) (hz:SX q vS vH W (.slice (some a) n c) z):
  PS q (W.setCell ⟨q,1,none⟩ (.slice (some a) n c)) vS (.slice (some a) n c) vH vs {st with wat:=some z}∧Up q vS vH vS vH W (W.setCell ⟨q,1,none⟩ (.slice (some a) n c)):=by
 have hu:Up q vS vH vS vH W (W.setCell ⟨q,1,none⟩ (.slice (some a) n c)):=⟨fun b hb hn=>⟨Below.heap_setCell _ _ _ _ (show b≠q by have:=hn.1;omega),hn⟩,by simp [World.setCell]⟩
 refine ⟨⟨Qcu h.box _,h.own.of_block (fun b hb=>Below.heap_setCell _ _ _ _ (show b≠q by have:=(h.own.at_block hb).1;omega)),h.ownH.of_block (fun b hb=>Below.heap_setCell _ _ _ _ (show b≠q by have:=(h.ownH.at_block hb).1;omega)),h.len,fun i hi=>(h.each i hi).up hu,⟨a,n,c,rfl,hz.up hu⟩⟩,hu⟩
theorem RX.move {q:Nat} {vS vH:Value} {w wf:World} {A:Option Addr} {cs:List Value} (h:RX q vS vH w A cs) (hh:∀ b,q < b→wf.heap[b]? =w.heap[b]?) (hs:w.heap.size≤wf.heap.size):RD wf wf.heap.size A cs:=by
 obtain ⟨h1,h2⟩:=h
 rcases h1 with h1 | ⟨b,off,rfl,hlt,hc⟩
 ·exact .inl h1
 ·refine .inr ⟨b,off,rfl,Nat.lt_of_lt_of_le hlt hs,fun j v hv=>?_⟩
  rw [World.cell?_of_block (w:=w) (a:=⟨b,off+j,none⟩) (hh b (h2 _ rfl).2.1)]
  exact hc j v hv
theorem SX.move {q:Nat} {vS vH:Value} {w wf:World} {v:Value} {xs:List Int} (h:SX q vS vH w v xs) (hh:∀ b,q < b→wf.heap[b]? =w.heap[b]?) (hs:w.heap.size≤wf.heap.size):SL wf wf.heap.size v xs:=by
 obtain ⟨A,c,rfl,h1,h2,h3⟩:=h
 exact ⟨A,c,rfl,h1,h2,h3.move hh hs⟩
theorem PS.td {q:Nat} {w wf:World} {vS vW vH:Value} {vs:List Value} {st:PSt} {z:List Int} (h:PS q w vS vW vH vs st) (hz:st.wat=some z) (hh:∀ b,q < b→wf.heap[b]? =w.heap[b]?) (hs:w.heap.size≤wf.heap.size) {A1 A2 A3:Option Addr} {n1 c1 n2 c2 n3 c3:Nat} (e1:vS= .slice A1 n1 c1) (e2:vW= .slice A2 n2 c2) (e3:vH= .slice A3 n3 c3):
  n1=st.sta.length∧n2=z.length∧n3=st.hal.length∧TD wf wf.heap.size st.sta z st.hal A1 c1 A2 c2 A3 c3 vs:=by
 obtain ⟨A1',c1',f1,l1,m1,r1,_⟩:=(h.own.of_block (w':=wf) fun b hb=>hh b (by have:=(h.own.at_block hb).1;omega)).form
 obtain ⟨A3',c3',f3,l3,m3,r3,_⟩:=(h.ownH.of_block (w':=wf) fun b hb=>hh b (by have:=(h.ownH.at_block hb).1;omega)).form
 have hw:=h.wat
 rw [hz] at hw
 obtain ⟨a,n,c,f2,A2',c2',e,l2,m2,rx⟩:=hw
 rw [f1] at e1
 rw [f3] at e3
 rw [e] at e2
 cases e1
 cases e2
 cases e3
 have hl:=h.len
 exact ⟨rfl,rfl,hl,l1,m1,r1,l2,m2,rx.move hh hs,by omega,m3,⟨hl,r3,fun i hi=>(h.each i hi).move hh hs⟩⟩
variable {w:World}
theorem op_appR2 {ops:Array Oper} {o:Oper} {a:Act} {K:Act→World→Prop} {Q:Exit→Act→World→Prop} {E:Prop} (hgd:o.guard=none) (s x:Operand)
  (ho:o.op= .call {callee:=.builtin .append,args:= #[s,x],argTypes:= #[24,24]})
  (base:Nat) (v:Value) (vs:List Value) (hs:a.eval s=v) (hown:OwnR w base v vs) (g c:Nat) (A:Option Addr) (n k:Nat) (hx:a.eval x= .slice (some ⟨g,0,none⟩) 1 c) (hc:w.cell? ⟨g,0,none⟩=some (.slice A n k))
  (hlen:vs.length≤1000000) (hbase:base≤w.heap.size)
  (h:∀ v' w',OwnR w' base v' (vs ++ [.slice A n k])→w.grownBy w' v.ownBlock→(v'.ownBlock=v.ownBlock∨v'.ownBlock=some w.heap.size)→K (a.put o.dst v') w'):
  if Region.wanted o (yielded ops a.tmps)=true then Oper.wp Tryz.prog o a w K Q else E:=by
 have hw:Region.wanted o (yielded ops a.tmps)=true:=by simp [Region.wanted,hgd]
 rw [if_pos hw]
 obtain ⟨i0,hi,hz0,hz1,hz2⟩:=info_parts infoInts
 obtain ⟨v',w',hrun,h2,h3,_,h5⟩:=run_append_own_at (P:=Tryz.prog) w base 24 o.type 22 i0 _ 1 24 Tryz.underlying24 hi hz0 hz1 hz2 rfl (by decide) v vs.length vs hown
  ⟨g,0,none⟩ 1 c [.slice A n k] rfl (fun j u hu=>by
    match j,hu with
    | 0,hu=>simp at hu;subst hu;exact hc) (by simp [Value.oneCell']) (by unfold maxLen;omega) (by omega) hbase
 unfold Oper.wp execOp
 simp only [ho,resolve,invoke,builtin,Sem.run_bind,Sem.run_pure,Result.andThen_ok,List.map_toArray,List.map_cons,List.map_nil,hs,hx,hrun]
 refine h v' w' ?_ h3 h5
 unfold OwnR
 rw [List.length_append]
 simpa using h2
end Go.Proofs.YtdlmdaononclgaaGreatDoor
namespace Go.Proofs.YtdlmdaononclgaaGreatDoor
open Go.RowKit
set_option linter.unusedVariables false
set_option linter.unusedSimpArgs false
theorem catch_idle (p q:Addr) (w:World):
  CallsD Tryz.prog 10 #[.pointer (some p),.pointer (some q)] .returning w fun e u' w'=>e= .returned (.tuple #[])∧u'= .returning∧w'=w:=by
 refine callsD_of_wpS Tryz.func10 rfl fun c₀ cs hu=>?_
 apply wpS_seq
 apply wpS_region
 simp [wpOpsS,go_sem,recoverD,hu,Tryz.ntmps10,Exit.thenS]
 refine wpS_of_wp ?_
 go_wp2
 cases c₀
 simp_all [bodyPostS,results,Tryz.results10]
set_option maxRecDepth 20000 in
set_option maxHeartbeats 2000000 in
theorem catch_wrong (p q:Nat) (w:World) (older:List PanicEntry) (x0 x1 x2 y0:Value) (hp:w.heap[p]? =some (.cells #[x0,x1,x2] 26 (0,0))) (hq:w.heap[q]? =some (.cells #[y0] 27 (0,0))) (hpq:p≠q):
  CallsD Tryz.prog 10 #[.pointer (some ⟨p,0,none⟩),.pointer (some ⟨q,0,none⟩)] (.panicking ({v:=.iface 37 (.agg #[]),recovered:=false} :: older)) w fun e u' w'=>
   e= .returned (.tuple #[])∧u'= .panicking ({v:=.iface 37 (.agg #[]),recovered:=true} :: older)∧w'.heap[p]? =some (.cells #[.slice none 0 0,.slice none 0 0,.slice none 0 0] 26 (0,0))∧w'.heap[q]? =some (.cells #[.int .i64 5] 27 (0,0))∧(∀ B,B≤p→B≤q→B≤w.heap.size→Below B w w'):=by
 obtain ⟨d0,d1,d2,df,dq⟩:=Qay hp
 have f0:=df 0
 have f1:=df 1
 have f2:=df 2
 clear df
 have hta:∀ w:World,(Instr.typeAssert (.iface 37 (.agg #[])) 20 37 true).run Tryz.prog w= .ok (.tuple #[.agg #[],.bool true]) w:=fun _=>by kernel_rfl
 have hql:q < w.heap.size:=(Array.getElem?_eq_some_iff.1 hq).1
 have hq4:((((w.setCell ⟨p,0,none⟩ (.slice none 0 0)).setCell ⟨p,1,none⟩ (.slice none 0 0)).setCell ⟨p,2,none⟩ (.slice none 0 0)).alloc (.cells #[] 37)).heap[q]? =some (.cells #[y0] 27 (0,0)):=by
  rw [Below.heap_alloc _ _ _ (by simp [World.setCell];omega),Below.heap_setCell _ _ _ _ (show q≠p from fun e=>hpq e.symm),Below.heap_setCell _ _ _ _ (show q≠p from fun e=>hpq e.symm),Below.heap_setCell _ _ _ _ (show q≠p from fun e=>hpq e.symm)]
  exact hq
 have c4:((((w.setCell ⟨p,0,none⟩ (.slice none 0 0)).setCell ⟨p,1,none⟩ (.slice none 0 0)).setCell ⟨p,2,none⟩ (.slice none 0 0)).alloc (.cells #[] 37)).cell? ⟨q,0,none⟩=some y0:=by rw [cell_of_row _ q _ _ _ _ hq4];rfl
 have f4:((((w.setCell ⟨p,0,none⟩ (.slice none 0 0)).setCell ⟨p,1,none⟩ (.slice none 0 0)).setCell ⟨p,2,none⟩ (.slice none 0 0)).alloc (.cells #[] 37)).frozen? ⟨q,0,none⟩=false:=by simp [World.frozen?, hq4]
 have HP:=Lib.hid hp
 have HQ:=Lib.hid hq
 clear hp hq hq4
 refine callsD_of_wpS Tryz.func10 rfl fun c₀ cs hu=>?_
 apply wpS_seq
 apply wpS_region
 simp [wpOpsS,go_sem,recoverD,hu,Tryz.ntmps10,Exit.thenS]
 refine wpS_of_wp ?_
 go_wp2
 refine ⟨rfl,_,rfl,_,results_none rfl _ _ _,rfl,rfl,?_,?_,fun B h1 h2 h3=>?_⟩
 ·rw [Below.heap_alloc _ _ _ (by simp [World.setCell];omega),Below.heap_setCell _ _ _ _ (show p≠q from hpq)]
  simp [World.setCell,Array.getElem?_modify,HP.out]
 ·rw [Below.heap_alloc _ _ _ (by simp [World.setCell];omega)]
  simp [World.setCell,Array.getElem?_modify,HQ.out,hpq]
 ·refine Below.alloc ?_ (by simp [World.setCell];omega) _
  refine Below.setCell ?_ h2 _
  refine Below.setCell ?_ h1 _
  refine Below.setCell ?_ h1 _
  exact Below.setCell (Below.refl _ _) h1 _
end Go.Proofs.YtdlmdaononclgaaGreatDoor
namespace Go.Proofs.YtdlmdaononclgaaGreatDoor
open Go Go.RowKit
set_option linter.unusedVariables false
set_option linter.unusedSimpArgs false
def consH (x:UInt8):List (List UInt8)→List (List UInt8)
 | []=>[[x]]
 | h :: t=>(x :: h) :: t
def Qai (c:UInt8):List UInt8→List (List UInt8)
 | []=>[[]]
 | x :: l=>if x=c then [] :: Qai c l else consH x (Qai c l)
theorem splitL_ne (c:UInt8):∀ l,Qai c l≠[]
 | []=>by simp [Qai]
 | x :: l=>by
   unfold Qai
   split
   ·simp
   ·cases h:Qai c l with
    | nil=>simp [consH]
    | cons a t=>simp [consH]
theorem Qd {c:UInt8}:∀ {l:List UInt8},(∀ x∈l,x≠c)→Qai c l=[l]
 | [],_=>rfl
 | x :: l,h=>by
   rw [Qai,if_neg (h x List.mem_cons_self),Qd fun y hy=>h y (List.mem_cons_of_mem _ hy)];rfl
theorem Qby {c:UInt8} (b:List UInt8):∀ {a:List UInt8},(∀ x∈a,x≠c)→Qai c (a ++ c :: b)=a :: Qai c b
 | [],_=>by rw [List.nil_append,Qai,if_pos rfl]
 | x :: a,h=>by
   rw [List.cons_append,Qai,if_neg (h x List.mem_cons_self),Qby b fun y hy=>h y (List.mem_cons_of_mem _ hy)];rfl
theorem ix_one (s:ByteArray) (c:UInt8):Lib.indexB s ⟨#[c]⟩=Lib.indexByte s.data.toList c:=Lib.index_one s.data.toList c
theorem split_eq (c:UInt8):∀ (k:Nat) (s:ByteArray),Lib.countB s ⟨#[c]⟩=k→(Lib.splitB ⟨#[c]⟩ 0 k s).map (fun x=>x.data.toList)=Qai c s.data.toList
 | 0,s,h=>by
   rcases Lib.indexB_cases s ⟨#[c]⟩ with hix | ⟨i,hix,_⟩
   ·rw [Lib.splitB_zero]
    rw [ix_one] at hix
    have:=Lib.indexByte_none hix
    rw [Qd fun x hx e=>by
     obtain ⟨j,hj⟩:=List.mem_iff_getElem?.1 hx
     rw [e] at hj
     exact this j hj]
    rfl
   ·rw [Lib.countB_hit s ⟨#[c]⟩ i (Nat.le_refl 1) hix] at h;omega
 | k+1,s,h=>by
   rcases Lib.indexB_cases s ⟨#[c]⟩ with hix | ⟨i,hix,_⟩
   ·rw [Lib.countB_miss s ⟨#[c]⟩ hix] at h;omega
   ·have h2:=Lib.countB_hit s ⟨#[c]⟩ i (Nat.le_refl 1) hix
    rw [Lib.splitB_hit _ _ _ _ i hix,List.map_cons,split_eq c k _ (by omega),Lib.extract_from_zero,Lib.extract_to_end]
    rw [ix_one] at hix
    obtain ⟨h3,h4⟩:=Lib.indexByte_some hix
    have hi:i < s.data.toList.length:=(List.getElem?_eq_some_iff.1 h3).1
    have e:s.data.toList=s.data.toList.take i ++ c :: s.data.toList.drop (i+1):=by
     have h5:s.data.toList[i]=c:=by rw [List.getElem?_eq_getElem hi] at h3;exact Option.some.inj h3
     rw [←h5, ←List.drop_eq_getElem_cons hi,List.take_append_drop]
    rw [e,Qby _ (fun x hx ex=>?_)]
    ·rw [←e];rfl
    ·obtain ⟨j,hj⟩:=List.mem_iff_getElem?.1 hx
     rw [List.getElem?_take] at hj
     split at hj
     ·rename_i hlt
      rw [ex] at hj
      exact h4 j hlt hj
     ·cases hj
theorem pieces_eq (c:UInt8) (s:ByteArray):(Qbc c s).map (fun x=>x.data.toList)=Qai c s.data.toList:=split_eq c _ s rfl
def dropE (p:List (List UInt8)):List (List UInt8):=if p.getLast? =some [] then p.dropLast else p
def Qaj (l:List UInt8):List (List UInt8):=dropE (Qai 10 l)
def Qan (l:List UInt8):List (List UInt8):=if l.head? =some 35 then [] else (Qai 32 l).filter fun x=> !x.isEmpty
theorem nil_iff (x:ByteArray):x.data.toList=[]↔x=ByteArray.empty:=⟨fun h=>Go.WideShapes.bytes_inj (b:=ByteArray.empty) h,fun h=>by rw [h];rfl⟩
theorem lnN_eq (s:ByteArray):((Qbc 10 s).take (lnN (Qbc 10 s))).map (fun x=>x.data.toList)=Qaj s.data.toList:=by
 unfold Qaj dropE
 rw [←pieces_eq]
 unfold lnN
 rw [List.getLast?_map]
 by_cases h:(Qbc 10 s).getLast? =some ByteArray.empty
 ·rw [if_pos h,h,if_pos (by rfl), ←List.map_dropLast,List.dropLast_eq_take]
 ·rw [if_neg h,if_neg,List.take_length]
  intro h2
  cases hq:(Qbc 10 s).getLast? with
  | none=>rw [hq] at h2;cases h2
  | some x=>
    rw [hq] at h2 h
    exact h (by rw [(nil_iff x).1 (Option.some.inj h2)])
theorem wrdL_eq (s:ByteArray):(wrdL s).map (fun x=>x.data.toList)=(Qai 32 s.data.toList).filter (fun x:List UInt8=> !x.isEmpty):=by
 unfold wrdL
 rw [←pieces_eq,List.filter_map]
 congr 1
 refine List.filter_congr fun x _=>?_
 show (!x.toList.isEmpty)=(!x.data.toList.isEmpty)
 rw [ByteArray.toList_eq]
theorem hasP_eq (l:List UInt8):Lib.hasPrefix l [35]=true↔l.head? =some 35:=by
 cases l with
 | nil=>exact ⟨fun h=>(by cases h),fun h=>(by cases h)⟩
 | cons x t=>
   have e:Lib.hasPrefix (x :: t) [35]=((35 == x) && true):=by
    unfold Lib.hasPrefix
    cases t <;> rfl
   rw [e,Bool.and_true,beq_iff_eq]
   exact ⟨fun h=>by rw [←h];rfl,fun h=>(Option.some.inj h).symm⟩
theorem splitL_len (c:UInt8):∀ (l x:List UInt8),x∈Qai c l→x.length≤l.length
 | [],x,h=>by
   unfold Qai at h
   rw [List.mem_singleton.1 h];exact Nat.le_refl _
 | y :: l,x,h=>by
   have ih:=splitL_len c l
   unfold Qai at h
   split at h
   ·rcases List.mem_cons.1 h with rfl | h
    · exact Nat.zero_le _
    · exact Nat.le_succ_of_le (ih x h)
   ·cases e:Qai c l with
    | nil=>exact absurd e (splitL_ne c l)
    | cons a t=>
      rw [e] at h
      rcases List.mem_cons.1 h with rfl | h
      ·exact Nat.succ_le_succ (ih a (by rw [e];exact List.mem_cons_self))
      ·exact Nat.le_succ_of_le (ih x (by rw [e];exact List.mem_cons_of_mem _ h))
theorem linesS_len {l x:List UInt8} (h:x∈Qaj l):x.length≤l.length:=by
 unfold Qaj dropE at h
 split at h
 ·exact splitL_len _ _ _ ((List.dropLast_sublist _).subset h)
 ·exact splitL_len _ _ _ h
theorem wordsS_len {l x:List UInt8} (h:x∈Qan l):x.length≤l.length:=by
 unfold Qan at h
 split at h
 ·cases h
 ·exact splitL_len _ _ _ (List.mem_filter.1 h).1
noncomputable def lineB (s:ByteArray):List ByteArray:=(Qbc 10 s).take (lnN (Qbc 10 s))
noncomputable def wrdK (s:ByteArray):List ByteArray:=if Lib.hasPrefix s.data.toList [35]=true then [] else wrdL s
theorem lineB_eq (s:ByteArray):by8 (lineB s)=Qaj s.data.toList:=lnN_eq s
theorem wrdK_eq (s:ByteArray):by8 (wrdK s)=Qan s.data.toList:=by
 unfold wrdK Qan
 by_cases h:Lib.hasPrefix s.data.toList [35]=true
 ·rw [if_pos h,if_pos ((hasP_eq _).1 h)];rfl
 ·rw [if_neg h,if_neg fun k=>h ((hasP_eq _).2 k)]
  exact wrdL_eq s
theorem lnN_le (P:List ByteArray):lnN P≤P.length:=by unfold lnN;split <;> omega
theorem lineB_length (s:ByteArray):(lineB s).length=lnN (Qbc 10 s):=by
 unfold lineB
 rw [List.length_take]
 have:=lnN_le (Qbc 10 s)
 omega
theorem lineB_le (s:ByteArray):(lineB s).length≤s.size+1:=by
 rw [lineB_length]
 exact Nat.le_trans (lnN_le _) (Qcy 10 s)
theorem wrdK_le (s:ByteArray):(wrdK s).length≤s.size+1:=by
 unfold wrdK
 split
 ·exact Nat.zero_le _
 ·exact Nat.le_trans (List.length_filter_le _ _) (Qcy 32 s)
theorem by8_mem {ss:List ByteArray} {k:Nat} (h:k < ss.length):(sx ss k).data.toList∈by8 ss:=by
 rw [←by8_getD]
 have hl:(by8 ss).length=ss.length:=List.length_map _
 rw [List.getD,List.getElem?_eq_getElem (by omega)]
 exact List.getElem_mem _
theorem lineB_size {s:ByteArray} {k:Nat} (h:k < (lineB s).length):(sx (lineB s) k).size≤s.size:=by
 have:=by8_mem h
 rw [lineB_eq] at this
 exact linesS_len this
theorem wrdK_size {s:ByteArray} {k:Nat} (h:k < (wrdK s).length):(sx (wrdK s) k).size≤s.size:=by
 have:=by8_mem h
 rw [wrdK_eq] at this
 exact wordsS_len this
theorem rd_made (w:World) (row:List ByteArray) (n:Nat) (hn:n≤row.length) (t:TypeId) {B:Nat} (hB:w.heap.size < B):RD (w.alloc (.cells (row.map Value.string).toArray t)) B (some ⟨w.heap.size,0,none⟩) (strs (row.take n)):=by
 refine .inr ⟨w.heap.size,0,rfl,hB,fun j v hv=>?_⟩
 rw [cell_of_row _ w.heap.size _ _ _ _ (heap_alloc_new w _)]
 unfold strs at hv
 rw [List.getElem?_map,List.getElem?_take] at hv
 split at hv
 ·simpa using hv
 ·cases hv
def SsQ (ss:List ByteArray) (w:World) (e:Ending) (w':World):Prop:=∃ A c,e= .returned (.slice A ss.length c)∧ss.length≤c∧c≤9223372036854775807∧RD w' w'.heap.size A (strs ss)∧(∀ a,A=some a→w.heap.size≤a.block∧a.block < w'.heap.size)∧Below w.heap.size w w'
theorem lines_is (s:ByteArray) (hs:s.size < 4294967281) (w:World) (t:Txt w):Calls Tryz.prog 11 #[.string s] w (SsQ (lineB s) w):=
 (lines_any s hs w t).mono fun e w' ⟨he,hw⟩=>by
   subst hw
   have hl:=lnN_le (Qbc 10 s)
   have hp:=Qcy 10 s
   refine ⟨some ⟨w.heap.size,0,none⟩,(Qbc 10 s).length,by rw [he,lineB_length],by rw [lineB_length];exact hl,by omega,rd_made w _ _ hl _ (by simp),fun a ha=>by cases ha;exact ⟨Nat.le_refl _,by simp⟩,(Below.refl _ _).alloc (Nat.le_refl _) _⟩
theorem below_ahead {B:Nat} {w w':World} (h:Below B w w') (q:Nat):Below B w (Sort.ahead w' q):=⟨h.os,h.tape,h.output,h.size,h.block⟩
theorem words_is (s:ByteArray) (hs:s.size < 4294967281) (w:World) (t:Txt w):Calls Tryz.prog 12 #[.string s] w (SsQ (wrdK s) w):=
 (words_any s hs w t).mono fun e w' h=>by
   unfold wrdK
   by_cases hh:Lib.hasPrefix s.data.toList [35]=true
   ·rw [if_pos hh] at h ⊢
    obtain ⟨he,hw⟩:=h
    subst hw
    exact ⟨none,0,he,Nat.le_refl _,by omega,.inl rfl,fun a ha=>(by cases ha),Below.refl _ _⟩
   ·rw [if_neg hh] at h ⊢
    obtain ⟨he,q,hw⟩:=h
    subst hw
    have hp:=Qcy 32 s
    have hl:(wrdL s).length≤(Qbc 32 s).length:=List.length_filter_le _ _
    have hr:(wrdR s).length=(Qbc 32 s).length:=by unfold wrdR;rw [List.length_append,List.length_replicate];omega
    have ht:(wrdR s).take (wrdL s).length=wrdL s:=by unfold wrdR;rw [List.take_left]
    have h1:=rd_made w (wrdR s) (wrdL s).length (by omega) 9 (B:=w.heap.size+1) (by omega)
    rw [ht] at h1
    refine ⟨some ⟨w.heap.size,0,none⟩,(Qbc 32 s).length,he,hl,by omega,?_,fun a ha=>by cases ha;exact ⟨Nat.le_refl _,by simp [Sort.ahead]⟩,below_ahead ((Below.refl _ _).alloc (Nat.le_refl _) _) q⟩
    have e:(Sort.ahead (w.alloc (.cells ((wrdR s).map Value.string).toArray 9)) q).heap.size=w.heap.size+1:=by simp [Sort.ahead]
    rw [e]
    exact h1
end Go.Proofs.YtdlmdaononclgaaGreatDoor
namespace Go.Proofs.YtdlmdaononclgaaGreatDoor
open Go.RowKit
set_option linter.unusedVariables false
set_option linter.unusedSimpArgs false
structure PRes where
 xs:List Int
 zs:List Int
 rs:List (List Int)
 at':Int
 e:Int
def st0:PSt:=⟨[],none,[]⟩
def parW (l:List UInt8):PRes:=
 if 4000 < l.length then ⟨[],[],[],0,2⟩ else
 match runW 0 ((Qaj l).map Qan) st0 with
 | .inl k=>⟨[],[],[],k,5⟩
 | .inr st=>match st.wat with
   | none=>⟨[],[],[],((Qaj l).length:Int)+1,5⟩
   | some z=>if Qav st.sta z st.hal=true then ⟨st.sta,z,st.hal,0,0⟩ else ⟨[],[],[],0,13⟩
def ParQ (r:PRes) (w:World) (e:Ending) (w':World):Prop:=∃ A1 c1 A2 c2 A3 c3 vs,e= .returned (.tuple #[.agg #[.slice A1 r.xs.length c1,.slice A2 r.zs.length c2,.slice A3 r.rs.length c3],.int .i64 r.at',.int .i64 r.e])∧TD w' w'.heap.size r.xs r.zs r.rs A1 c1 A2 c2 A3 c3 vs∧Below w.heap.size w w'
theorem heap_new' (w:World) (o:Obj) {b:Nat} (h:b=w.heap.size):(w.alloc o).heap[b]? =some o:=by subst h;exact heap_alloc_new w o
def nil3:Obj:=.cells #[.slice none 0 0,.slice none 0 0,.slice none 0 0] 26 (0,0)
theorem Qcq {w W:World} (a e:Int) (hB:Below w.heap.size w W):ParQ ⟨[],[],[],a,e⟩ w (.returned (.tuple #[.agg #[.slice none 0 0,.slice none 0 0,.slice none 0 0],.int .i64 a,.int .i64 e])) W:=
 ⟨none,0,none,0,none,0,[],rfl,⟨Nat.le_refl _,by omega,.inl rfl,Nat.le_refl _,by omega,.inl rfl,Nat.le_refl _,by omega,⟨rfl,.inl rfl,fun i hi=>by cases hi⟩⟩,hB⟩
abbrev dfr (b:Nat):Deferred:={target:=.fn (.func 10) #[.pointer (some ⟨b,0,none⟩),.pointer (some ⟨b+1,0,none⟩)],args:= #[]}
set_option maxRecDepth 20000 in
theorem door_wrong {w W:World} {a:Int} {tm:Array Value} {r:PRes} (hr:r=⟨[],[],[],a,5⟩) (hB:Below w.heap.size w W) (h2:W.heap[w.heap.size]? =some nil3) (h4:W.heap[w.heap.size+1]? =some (.cells #[.int .i64 0] 27 (0,0)))
  (t2:tm[2]?.getD undef= .pointer (some ⟨w.heap.size,0,none⟩)) (t3:tm[3]?.getD undef= .int .i64 a) (t4:tm[4]?.getD undef= .pointer (some ⟨w.heap.size+1,0,none⟩)):
  bodyPostD Tryz.prog Tryz.f4 (ParQ r w) (Exit.panic wrongP) {tmps:=tm,defers:=[dfr w.heap.size]} W:=by
 subst hr
 refine leaves_cons (f:=10) (args:= #[.pointer (some ⟨w.heap.size,0,none⟩),.pointer (some ⟨w.heap.size+1,0,none⟩)]) (by simp) (by simp [go_sem]) ?_
 refine (catch_wrong w.heap.size (w.heap.size+1) W [] _ _ _ _ h2 h4 (by omega)).mono ?_
 rintro e u' w'' ⟨rfl,rfl,k2,k4,kb⟩
 obtain ⟨e0,e1,e2,_,_⟩:=Qay k2
 have e4:w''.cell? ⟨w.heap.size+1,0,none⟩=some (.int .i64 5):=by rw [cell_of_row _ _ _ _ _ _ k4];rfl
 have hB2:Below w.heap.size w w'':=hB.trans (kb _ (Nat.le_refl _) (by omega) hB.size)
 have HB:=Lib.hid (Qcq a 5 hB2)
 clear kb hB hB2 k2 k4 h2 h4
 simp [Leaves,settle,results,Tryz.results4,go_sem,t2,t3,t4,e0,e1,e2,e4]
 exact HB.out
set_option maxRecDepth 20000 in
theorem door_ret {w W:World} {tm:Array Value} {r:PRes} {x0 x1 x2:Value} {a e:Int} (hr:ParQ r w (.returned (.tuple #[.agg #[x0,x1,x2],.int .i64 a,.int .i64 e])) W) (h2:W.heap[w.heap.size]? =some (.cells #[x0,x1,x2] 26 (0,0))) (h4:W.heap[w.heap.size+1]? =some (.cells #[.int .i64 e] 27 (0,0)))
  (t2:tm[2]?.getD undef= .pointer (some ⟨w.heap.size,0,none⟩)) (t3:tm[3]?.getD undef= .int .i64 a) (t4:tm[4]?.getD undef= .pointer (some ⟨w.heap.size+1,0,none⟩)):
  bodyPostD Tryz.prog Tryz.f4 (ParQ r w) Exit.ret {tmps:=tm,defers:=[dfr w.heap.size]} W:=by
 obtain ⟨e0,e1,e2,_,_⟩:=Qay h2
 have e4:W.cell? ⟨w.heap.size+1,0,none⟩=some (.int .i64 e):=by rw [cell_of_row _ _ _ _ _ _ h4];rfl
 have HB:=Lib.hid hr
 clear h2 h4 hr
 refine leaves_cons (f:=10) (args:= #[.pointer (some ⟨w.heap.size,0,none⟩),.pointer (some ⟨w.heap.size+1,0,none⟩)]) (by simp) (by simp [go_sem]) ?_
 refine (catch_idle ⟨w.heap.size,0,none⟩ ⟨w.heap.size+1,0,none⟩ W).mono ?_
 rintro e' u' w'' ⟨rfl,rfl,rfl⟩
 simp [Leaves,settle,results,Tryz.results4,go_sem,t2,t3,t4,e0,e1,e2,e4]
 exact HB.out
set_option maxHeartbeats 4000000 in
set_option maxRecDepth 20000 in
theorem Parse_long (s:ByteArray) (h:4000 < s.size) (w:World):Calls Tryz.prog 4 #[.string s] w (ParQ ⟨[],[],[],0,2⟩ w):=by
 have hi:(4000:Int) < (s.size:Int):=by omega
 go_enter_defers Tryz.func4,Tryz.ntmps4
 go_wp2
 simp [bodyPostD,Leaves,settle,results,Tryz.results4,go_sem]
 exact Qcq 0 2 (((Below.refl _ _).alloc (Nat.le_refl _) _).alloc (by simp) _)
structure Sta0 (w W1:World):Prop where
 ps:PS (w.heap.size+1+1) W1 (.slice none 0 0) (.slice none 0 0) (.slice none 0 0) [] st0
 b2:W1.heap[w.heap.size]? =some nil3
 b4:W1.heap[w.heap.size+1]? =some (.cells #[.int .i64 0] 27 (0,0))
 lt:w.heap.size+1+1 < W1.heap.size
 bel:Below w.heap.size w W1
theorem sta0 {w W1:World} (hb:Below (((w.alloc nil3).alloc (.cells #[.int .i64 0] 27)).alloc nil3).heap.size (((w.alloc nil3).alloc (.cells #[.int .i64 0] 27)).alloc nil3) W1):Sta0 w W1:=by
 have hz:=hb.size
 simp only [World.size_alloc] at hz
 have hbx:W1.heap[w.heap.size+1+1]? =some nil3:=by
  rw [hb.block _ (by simp only [World.size_alloc];omega)]
  exact heap_new' _ _ (by simp only [World.size_alloc])
 refine ⟨⟨hbx,OwnI.nil _ _,OwnR.nil _ _,rfl,fun i hi=>(by cases hi),rfl⟩,?_,?_,by omega,?_⟩
 ·rw [hb.block _ (by simp only [World.size_alloc];omega),Below.heap_alloc _ _ _ (by simp only [World.size_alloc];omega),Below.heap_alloc _ _ _ (by simp only [World.size_alloc];omega)]
  exact heap_alloc_new w _
 ·rw [hb.block _ (by simp only [World.size_alloc];omega),Below.heap_alloc _ _ _ (by simp only [World.size_alloc];omega)]
  exact heap_new' _ _ (by simp only [World.size_alloc])
 ·exact Qa hb ((((Below.refl _ _).alloc (Nat.le_refl _) _).alloc (by simp only [World.size_alloc];omega) _).alloc (by simp only [World.size_alloc];omega) _) (by simp only [World.size_alloc];omega)
end Go.Proofs.YtdlmdaononclgaaGreatDoor
namespace Go.Proofs.YtdlmdaononclgaaGreatDoor
open Go.RowKit
set_option linter.unusedVariables false
set_option linter.unusedSimpArgs false
theorem Qbs {P : Program} {id : Nat} {Q : Exit → Act → World → Prop} {a : Act} {w : World} {l : List Oper} (S : World → Prop) (k : Nat) (hm : P.follows .mixedOrders = true) (hB : heldB l.toArray k = true)
    (hS : S (w.drewN 1))
    (h : ∀ K : Act → World → Prop, Hid (∀ a w, Q .normal a w → K a w) → wpHeld P l.toArray S (fun a' => wpTail P l.toArray (fun e a w => e = .normal ∧ K a w) S (l.toArray.size - 1) (l.drop k) k a' (w.drewN 1)) (l.take k) a) :
    (Code.region id l.toArray true).wp P Q a w := by
  have h := h (Q .normal) (Lib.hid fun _ _ h => h)
  simp only [heldB, Bool.and_eq_true, decide_eq_true_eq, List.all_eq_true, List.mem_range] at hB
  obtain ⟨⟨⟨hsel, hn⟩, hlex⟩, hwt⟩ := hB
  have hn' : k < l.length := by simpa using hn
  have htl : (l.take k).length = k := by simp; omega
  have hdl : (l.drop k).length = l.toArray.size - k := by simp
  have H := wpAnyT_lex (P := P) (md := .any) (ops := l.toArray) (S := S) (last := l.toArray.size - 1) (tl := l.drop k) (k0 := k) hsel (fun j => by simp [List.getElem?_drop]) (l.take k) 0 (Array.replicate l.toArray.size false) a (w.drewN 1)
    (fun j hj => by have hj' : j < k := by rw [htl] at hj; exact hj
                    simp [hj'])
    (by simpa using htl) (fun j hj => by have hj' : j < k := by rw [htl] at hj; exact hj
                                         rw [Nat.zero_add]; exact ⟨by simp; omega, hwt j hj'⟩) (by rw [htl, hdl]; exact hlex) hS h
  rw [htl, hdl, show k + (l.toArray.size - k) = l.toArray.size by omega] at H
  exact Code.wp_mono (fun e a w h => by obtain ⟨rfl, h⟩ := h; exact h) (wp_region_any (id := id) hm (wpAny_of_T _ _ _ _ H))
theorem allW_len:∀ {l:List (List UInt8)} {ns:List Int},allW l=some ns→ns.length=l.length
 | [],ns,h=>by cases Option.some.inj h;rfl
 | x :: l,ns,h=>by
   unfold allW at h
   cases hn:numW x with
   | none=>rw [hn] at h;cases h
   | some n=>
     cases hr:allW l with
     | none=>rw [hn,hr] at h;cases h
     | some r=>
       rw [hn,hr] at h
       cases Option.some.inj h
       rw [List.length_cons,List.length_cons,allW_len hr]
theorem numsW_len {wd:List UInt8} {l:List (List UInt8)} {ns:List Int} (h:numsW wd l=some ns):1≤ns.length∧ns.length+1=l.length:=by
 match l,h with
 | x :: l,h=>
   have h:(if x=wd∧l≠[] then allW l else none)=some ns:=h
   by_cases hc:x=wd∧l≠[]
   ·rw [if_pos hc] at h
    have:=allW_len h
    have h1:l.length≠0:=fun e=>hc.2 (List.eq_nil_of_length_eq_zero e)
    rw [List.length_cons]
    omega
   ·rw [if_neg hc] at h
    cases h
theorem runW_at {k:Nat} {all:List (List (List UInt8))} {st:PSt} (hk:k < all.length):runW k (all.drop k) st=match stepW st (all.getD k []) with
  | none=>.inl (k+1)
  | some s=>runW (k+1) (all.drop (k+1)) s:=by
 have e:all.drop k=all.getD k [] :: all.drop (k+1):=by
  rw [List.drop_eq_getElem_cons hk]
  simp [List.getD,List.getElem?_eq_getElem hk]
 rw [e]
 rfl
theorem all_at (s:ByteArray) {k:Nat} (h:k < (lineB s).length):((Qaj s.data.toList).map Qan).getD k []=by8 (wrdK (sx (lineB s) k)):=by
 rw [wrdK_eq, ←by8_getD,lineB_eq]
 have hl:k < (Qaj s.data.toList).length:=by rw [←lineB_eq];unfold by8;rw [List.length_map];exact h
 simp [List.getD,List.getElem?_eq_getElem hl]
theorem all_len (s:ByteArray):((Qaj s.data.toList).map Qan).length=(lineB s).length:=by
 rw [List.length_map, ←lineB_eq];unfold by8;rw [List.length_map]
theorem step_nil (st:PSt) {ws:List (List UInt8)} (h:ws.length=0):stepW st ws=some st:=by rw [List.eq_nil_of_length_eq_zero h];rfl
theorem step_wat {st:PSt} {ws:List (List UInt8)} (h:0 < ws.length) (hw:st.wat=none):stepW st ws=match numsW Qaq ws with
   | none=>none
   | some n=>some {st with wat:=some n}:=by
 cases ws with
 | nil=>simp at h
 | cons x l=>unfold stepW;rw [hw];try rfl
theorem step_sta {st:PSt} {ws:List (List UInt8)} {z:List Int} (h:0 < ws.length) (hw:st.wat=some z):stepW st ws=match numsW Qal ws with
   | none=>none
   | some l=>if l.length=1+z.length then some {st with sta:=st.sta ++ [ix l 0],hal:=st.hal ++ [l.drop 1]} else none:=by
 cases ws with
 | nil=>simp at h
 | cons x l=>unfold stepW;rw [hw];try rfl
theorem numbers_bad {ss:List ByteArray} {word:ByteArray} (hN:numsW word.data.toList (by8 ss)=none) {n:Nat} (hn:ss.length=n) (h0:0 < n) (hn1:n≤100000) (hsz:∀ j,j < n→(sx ss j).size≤100000) (A:Option Addr) (c:Nat) (hc:n≤c) (hm:c≤9223372036854775807) (w:World) (t:Txt w) (h:RD w w.heap.size A (strs ss)):
  Calls Tryz.prog 13 #[.slice A n c,.string word] w fun e w'=>e= .panicked wrongP∧Below w.heap.size w w':=by
 have:=numbers_any ss word hn h0 hn1 hsz A c hc hm w t h
 rw [hN] at this
 exact this
theorem numbers_good {ss:List ByteArray} {word:ByteArray} {ns:List Int} (hN:numsW word.data.toList (by8 ss)=some ns) {n:Nat} (hn:ss.length=n) (h0:0 < n) (hn1:n≤100000) (hsz:∀ j,j < n→(sx ss j).size≤100000) (A:Option Addr) (c:Nat) (hc:n≤c) (hm:c≤9223372036854775807) (w:World) (t:Txt w) (h:RD w w.heap.size A (strs ss)) {m:Nat} (hl:ns.length=m):
  Calls Tryz.prog 13 #[.slice A n c,.string word] w fun e w'=>∃ g cap,e= .returned (.slice (some ⟨g,0,none⟩) m cap)∧m≤cap∧cap≤9223372036854775807∧OwnI w' w.heap.size (.slice (some ⟨g,0,none⟩) m cap) ns∧Below w.heap.size w w':=by
 have:=numbers_any ss word hn h0 hn1 hsz A c hc hm w t h
 rw [hN] at this
 refine this.mono fun e w' ⟨⟨v,h1,h2⟩,h3⟩=>?_
 obtain ⟨g,cap,rfl⟩:=h2.formM hl (by have:=(numsW_len hN).1;omega)
 obtain ⟨A',c',e',k1,k2,_⟩:=h2.form
 cases e'
 exact ⟨g,cap,h1,by omega,k2,h2,h3⟩
theorem Qbb (W:World):Below W.heap.size W (W.drewN 1):=Qaa (Below.refl _ _) 1
abbrev put3 (w W:World) (x0 x1 x2:Value):World:=((W.setCell ⟨w.heap.size,0,none⟩ x0).setCell ⟨w.heap.size,1,none⟩ x1).setCell ⟨w.heap.size,2,none⟩ x2
structure Fin (w W:World) (x0 x1 x2:Value) (e:Int):Prop where
 c0:W.cell? ⟨w.heap.size,0,none⟩=some (.slice none 0 0)
 c1:W.cell? ⟨w.heap.size,1,none⟩=some (.slice none 0 0)
 c2:W.cell? ⟨w.heap.size,2,none⟩=some (.slice none 0 0)
 f0:W.frozen? ⟨w.heap.size,0,none⟩=false
 f1:W.frozen? ⟨w.heap.size,1,none⟩=false
 f2:W.frozen? ⟨w.heap.size,2,none⟩=false
 c4:(put3 w W x0 x1 x2).cell? ⟨w.heap.size+1,0,none⟩=some (.int .i64 0)
 f4:(put3 w W x0 x1 x2).frozen? ⟨w.heap.size+1,0,none⟩=false
 b2:((put3 w W x0 x1 x2).setCell ⟨w.heap.size+1,0,none⟩ (.int .i64 e)).heap[w.heap.size]? =some (.cells #[x0,x1,x2] 26 (0,0))
 b4:((put3 w W x0 x1 x2).setCell ⟨w.heap.size+1,0,none⟩ (.int .i64 e)).heap[w.heap.size+1]? =some (.cells #[.int .i64 e] 27 (0,0))
 rest:∀ b,w.heap.size+1+1 < b→((put3 w W x0 x1 x2).setCell ⟨w.heap.size+1,0,none⟩ (.int .i64 e)).heap[b]? =W.heap[b]?
 size:W.heap.size≤((put3 w W x0 x1 x2).setCell ⟨w.heap.size+1,0,none⟩ (.int .i64 e)).heap.size
 bel:Below w.heap.size w W→Below w.heap.size w ((put3 w W x0 x1 x2).setCell ⟨w.heap.size+1,0,none⟩ (.int .i64 e))
theorem fin {w W:World} (x0 x1 x2:Value) (e:Int) (h2:W.heap[w.heap.size]? =some nil3) (h4:W.heap[w.heap.size+1]? =some (.cells #[.int .i64 0] 27 (0,0))):Fin w W x0 x1 x2 e:=by
 obtain ⟨d0,d1,d2,df,dq⟩:=Qay h2
 have h4':(put3 w W x0 x1 x2).heap[w.heap.size+1]? =some (.cells #[.int .i64 0] 27 (0,0)):=by
  rw [Below.heap_setCell _ _ _ _ (show w.heap.size+1≠w.heap.size by omega),Below.heap_setCell _ _ _ _ (show w.heap.size+1≠w.heap.size by omega),Below.heap_setCell _ _ _ _ (show w.heap.size+1≠w.heap.size by omega)]
  exact h4
 have h2':(put3 w W x0 x1 x2).heap[w.heap.size]? =some (.cells #[x0,x1,x2] 26 (0,0)):=by
  have:=Qcu (j:=2) (Qcu (j:=1) (Qcu (j:=0) h2 x0) x1) x2
  exact this
 refine ⟨d0,d1,d2,df 0,df 1,df 2,by rw [cell_of_row _ _ _ _ _ _ h4'];rfl,by simp [World.frozen?, h4'],?_,Qcu h4' _,fun b hb=>?_,by simp [World.setCell],fun hB=>?_⟩
 ·rw [Below.heap_setCell _ _ _ _ (show w.heap.size≠w.heap.size+1 by omega)];exact h2'
 ·rw [Below.heap_setCell _ _ _ _ (show b≠w.heap.size+1 by omega),Below.heap_setCell _ _ _ _ (show b≠w.heap.size by omega),Below.heap_setCell _ _ _ _ (show b≠w.heap.size by omega),Below.heap_setCell _ _ _ _ (show b≠w.heap.size by omega)]
 ·exact (((hB.setCell (Nat.le_refl _) _).setCell (Nat.le_refl _) _).setCell (Nat.le_refl _) _).setCell (Nat.le_succ _) _
structure RInv (s:ByteArray) (w W1 wr:World) (A:Option Addr) (k:Nat) (vS vW vH:Value) (vs:List Value) (st:PSt):Prop where
 ps:PS (w.heap.size+1+1) wr vS vW vH vs st
 rx:RX (w.heap.size+1+1) vS vH wr A (strs (lineB s))
 bel:Below (w.heap.size+1+1) W1 wr
 run:runW 0 ((Qaj s.data.toList).map Qan) st0=runW k (((Qaj s.data.toList).map Qan).drop k) st
 l1:st.sta.length≤k
 l2:st.hal.length≤k
 l3:∀ z,st.wat=some z→1≤z.length∧z.length≤5000
theorem RInv.below {s:ByteArray} {w W1 wr W2:World} {A:Option Addr} {k:Nat} {vS vW vH:Value} {vs:List Value} {st:PSt} (h:RInv s w W1 wr A k vS vW vH vs st) (hb:Below wr.heap.size wr W2):RInv s w W1 W2 A k vS vW vH vs st:=
 ⟨h.ps.below hb,h.rx.up (.of_below hb),h.bel.trans (hb.mono (by have:=h.ps.lt;omega)),h.run,h.l1,h.l2,h.l3⟩
theorem RInv.bw {s:ByteArray} {w W1 wr:World} {A:Option Addr} {k:Nat} {vS vW vH:Value} {vs:List Value} {st:PSt} (h:RInv s w W1 wr A k vS vW vH vs st) (h0:Sta0 w W1):Below w.heap.size w wr:=h0.bel.trans (h.bel.mono (by omega))
theorem RInv.b2 {s:ByteArray} {w W1 wr:World} {A:Option Addr} {k:Nat} {vS vW vH:Value} {vs:List Value} {st:PSt} (h:RInv s w W1 wr A k vS vW vH vs st) (h0:Sta0 w W1):wr.heap[w.heap.size]? =some nil3:=by rw [h.bel.block _ (by omega)];exact h0.b2
theorem RInv.b4 {s:ByteArray} {w W1 wr:World} {A:Option Addr} {k:Nat} {vS vW vH:Value} {vs:List Value} {st:PSt} (h:RInv s w W1 wr A k vS vW vH vs st) (h0:Sta0 w W1):wr.heap[w.heap.size+1]? =some (.cells #[.int .i64 0] 27 (0,0)):=by rw [h.bel.block _ (by omega)];exact h0.b4
theorem par_of {s:ByteArray} {k:Nat} (h: ¬ 4000 < s.size) (hr:runW 0 ((Qaj s.data.toList).map Qan) st0= .inl k):parW s.data.toList=⟨[],[],[],k,5⟩:=by
 unfold parW
 rw [if_neg (show ¬ 4000 < s.data.toList.length by rw [Array.length_toList];exact h),hr]
theorem RInv.bad {s:ByteArray} {w W1 wr:World} {A:Option Addr} {k:Nat} {vS vW vH:Value} {vs:List Value} {st:PSt} (h:RInv s w W1 wr A k vS vW vH vs st) (h4: ¬ 4000 < s.size) (hk:k < (lineB s).length) (hs:stepW st (by8 (wrdK (sx (lineB s) k)))=none):parW s.data.toList=⟨[],[],[],((k:Int)+1),5⟩:=by
 have:=h.run
 rw [runW_at (by rw [all_len];exact hk),all_at s hk,hs] at this
 rw [par_of h4 this]
 rfl
theorem RInv.good {s:ByteArray} {w W1 wr:World} {A:Option Addr} {k:Nat} {vS vW vH:Value} {vs:List Value} {st st':PSt} (h:RInv s w W1 wr A k vS vW vH vs st) (hk:k < (lineB s).length) (hs:stepW st (by8 (wrdK (sx (lineB s) k)))=some st'):runW 0 ((Qaj s.data.toList).map Qan) st0=runW (k+1) (((Qaj s.data.toList).map Qan).drop (k+1)) st':=by
 have:=h.run
 rw [runW_at (by rw [all_len];exact hk),all_at s hk,hs] at this
 exact this
set_option maxHeartbeats 8000000 in
set_option maxRecDepth 20000 in
theorem Parse_any (s:ByteArray) (h: ¬ 4000 < s.size) (w:World) (t:Txt w):Calls Tryz.prog 4 #[.string s] w (ParQ (parW s.data.toList) w):=by
 have hi: ¬ (4000:Int) < (s.size:Int):=by omega
 have hmf:∀ (fn:Fn) (first cap:Array Value) (w:World),(Instr.makeFunc fn first cap).run Tryz.prog w= .ok (.func fn first cap) w:=fun _ _ _ _=>rfl
 have hq:∀ (W:World) (a:Option Addr) (n c n' c':Nat),(binOp .eql 22 (.slice a n c) (.slice none n' c')).run Tryz.prog W= .ok (.bool a.isNone) W:=fun W a n c n' c'=>Lib.run_eql_slice_nil W _ _ a n c n' c' Tryz.underlying22
 go_enter_defers Tryz.func4,Tryz.ntmps4
 go_wp2_with fail
 refine (lines_is s (by omega) _ (t.keep (by repeat' (first | (with_reducible exact Below.refl _ _) | (with_reducible assumption) | (refine Qa (by assumption) ?_ ?_) | (with_reducible refine Qaa ?_ _) | (with_reducible refine Below.drew ?_) | (with_reducible refine Below.alloc ?_ ?_ _) | (with_reducible refine Below.setCell ?_ ?_ _) | go_size)))).mono ?_
 rintro e W1 ⟨A,c,rfl,hc,hm,hr,hA,hb1⟩
 have h0:=sta0 hb1
 have hrx:RX (w.heap.size+1+1) (.slice none 0 0) (.slice none 0 0) W1 A (strs (lineB s)):=⟨hr,fun a ha=>⟨(hA a ha).2,by have:=(hA a ha).1;simp only [World.size_alloc] at this;omega,by simp [Value.ownBlock],by simp [Value.ownBlock]⟩⟩
 have hin:RInv s w W1 W1 A 0 (.slice none 0 0) (.slice none 0 0) (.slice none 0 0) [] st0:=⟨h0.ps,hrx,Below.refl _ _,rfl,Nat.le_refl _,Nat.le_refl _,fun z hz=>by cases hz⟩
 have hln:=lineB_le s
 obtain ⟨n,hn⟩:∃ n,(lineB s).length=n:=⟨_,rfl⟩
 rw [hn] at hc hln ⊢
 have HN:=Lib.hid hn
 have H0:=Lib.hid h0
 have HIN:=Lib.hid hin
 have HT:=Lib.hid t
 clear hn h0 hin hrx hr hA hb1 t
 go_wp2
 go_loopw [3,20] (fun a x wr=>∃ (k:Nat) (z:Int) (vS vW vH:Value) (vs:List Value) (st:PSt),k≤n∧x= .int .i64 k∧a= .int .i64 z∧RInv s w W1 wr A k vS vW vH vs st) (fun _ x _=>n - (intOf x).toNat)
 case atStart=>exact ⟨0,0,_,_,_,_,_,by omega,rfl,rfl,HIN.out⟩
 case round=>
  obtain ⟨k,z,vS,vW,vH,vs,st,hk,rfl,rfl,hinv⟩:=hrel
  have HI:=Lib.hid hinv
  clear hinv HIN
  by_cases hk':k < n
  ·obtain ⟨b,off,rfl,hlt,hcell⟩:=HI.out.rx.1.strs (by rw [HN.out];omega)
   have y0:=hcell k (by rw [HN.out];omega)
   have hsz:=lineB_size (s:=s) (k:=k) (by rw [HN.out];omega)
   clear hcell
   obtain ⟨sk,hsk⟩:∃ x,sx (lineB s) k=x:=⟨_,rfl⟩
   have HSK:=Lib.hid hsk
   rw [hsk] at y0 hsz
   have W:=words_is sk (by omega) wr (HT.out.keep (HI.out.bw H0.out))
   have hwl:=wrdK_le sk
   have HWZ:Hid (∀ j,j < (wrdK sk).length→(sx (wrdK sk) j).size≤100000):=Lib.hid (fun j hj=>by have:=wrdK_size hj;omega)
   have HBAD:Hid (stepW st (by8 (wrdK sk))=none→parW s.data.toList=⟨[],[],[],((k:Int)+1),5⟩):=Lib.hid (fun e=>HI.out.bad h (by rw [HN.out];exact hk') (by rw [HSK.out];exact e))
   have HGOOD:Hid (∀ st',stepW st (by8 (wrdK sk))=some st'→runW 0 ((Qaj s.data.toList).map Qan) st0=runW (k+1) (((Qaj s.data.toList).map Qan).drop (k+1)) st'):=Lib.hid (fun st' e=>HI.out.good (by rw [HN.out];exact hk') (by rw [HSK.out];exact e))
   obtain ⟨ws,hws⟩:∃ x,wrdK sk=x:=⟨_,rfl⟩
   rw [hws] at W hwl HWZ HBAD HGOOD
   clear hsk hws
   unfold SsQ at W
   obtain ⟨m,hm2⟩:∃ m,ws.length=m:=⟨_,rfl⟩
   rw [hm2] at W HWZ hwl
   have HM:=Lib.hid hm2
   clear hm2
   by_cases hm0:m=0
   · subst hm0
     go_wp2_with (go_at_call 12;refine W.mono ?_;rintro e W2 ⟨A2,c2,rfl,hc2,hmx2,hr2,hA2,hb2⟩;have HI2:=Lib.hid (HI.out.below hb2);clear hr2 hA2 hb2)
     go_roundw
     case rel=>exact ⟨k+1,(k:Int)+1,_,_,_,_,_,by omega,by go_num,rfl,{HI2.out with run:=HGOOD.out st (step_nil st (by unfold by8;rw [List.length_map,HM.out])),l1:=Nat.le_succ_of_le HI2.out.l1,l2:=Nat.le_succ_of_le HI2.out.l2}⟩
     case measure=>simp [intOf];omega
   · have hmb:((m:Int) == 0)=false:=by simp;omega
     have HLW:Hid (0 < (by8 ws).length):=Lib.hid (by unfold by8;rw [List.length_map,HM.out];omega)
     cases hw:st.wat with
     | none=>
       have hvW:vW= .slice none 0 0:=by have:=HI.out.ps.wat;rw [hw] at this;exact this
       subst hvW
       cases hN:numsW Qaq (by8 ws) with
       | none=>
         have hb:=HBAD.out (by rw [step_wat HLW.out hw,hN])
         have HNN:=Lib.hid hN
         rw [hb]
         clear hb hw hN
         go_wp2_with (first | (go_at_call 12;refine W.mono ?_;rintro e W2 ⟨A2,c2,rfl,hc2,hmx2,hr2,hA2,hb2⟩;have HI2:=Lib.hid (HI.out.below hb2);obtain ⟨e0,e1,e2,ef,eq⟩:=Qay HI2.out.ps.box;have HR2:=Lib.hid hr2;clear hr2 hA2 hb2 e0 e2 ef) | (go_at_call 13;refine (numbers_bad HNN.out HM.out (by omega) (by omega) HWZ.out A2 c2 hc2 hmx2 W2 (HT.out.keep (HI2.out.bw H0.out)) HR2.out).mono ?_;rintro e W3 ⟨rfl,hb3⟩;have HI3:=Lib.hid (HI2.out.below hb3);clear hb3))
         exact door_wrong rfl (HI3.out.bw H0.out) (HI3.out.b2 H0.out) (HI3.out.b4 H0.out) rfl rfl rfl
       | some ns=>
         have hg:=HGOOD.out {st with wat:=some ns} (by rw [step_wat HLW.out hw,hN])
         obtain ⟨m3,hm3⟩:∃ m3,ns.length=m3:=⟨_,rfl⟩
         have HNN:=Lib.hid hN
         have HG:=Lib.hid hg
         have HM3:=Lib.hid hm3
         clear hg hw hN hm3
         go_wp2_with (first | (go_at_call 12;refine W.mono ?_;rintro e W2 ⟨A2,c2,rfl,hc2,hmx2,hr2,hA2,hb2⟩;have HI2:=Lib.hid (HI.out.below hb2);obtain ⟨e0,e1,e2,ef,eq⟩:=Qay HI2.out.ps.box;have HR2:=Lib.hid hr2;clear hr2 hA2 hb2 e0 e2 ef) | (go_at_call 13;refine (numbers_good HNN.out HM.out (by omega) (by omega) HWZ.out A2 c2 hc2 hmx2 W2 (HT.out.keep (HI2.out.bw H0.out)) HR2.out HM3.out).mono ?_;rintro e W3 ⟨g3,c3,rfl,hc3,hmx3,ho3,hb3⟩;have HS3:=Lib.hid (HI2.out.ps.fresh hb3 ho3);have HI3:=Lib.hid (HI2.out.below hb3);obtain ⟨i0,i1,i2,jf,jq⟩:=Qay HI3.out.ps.box;have j1:=jf 1;clear hb3 ho3 i0 i2 jf))
         go_roundw
         case rel=>
          obtain ⟨p1,p2⟩:=HI3.out.ps.put HS3.out
          exact ⟨k+1,(k:Int)+1,_,_,_,_,_,by omega,by go_num,rfl,⟨p1,HI3.out.rx.up p2,HI3.out.bel.setCell (Nat.le_refl _) _,HG.out,Nat.le_succ_of_le HI3.out.l1,Nat.le_succ_of_le HI3.out.l2,fun z hz=>by cases hz;have h1:=(numsW_len HNN.out).1;have:=(numsW_len HNN.out).2;unfold by8 at this;rw [List.length_map,HM.out] at this;exact ⟨h1,by omega⟩⟩⟩
         case measure=>simp [intOf];omega
     | some z0=>
       have hvW:=HI.out.ps.wat
       rw [hw] at hvW
       obtain ⟨aw,nw,cw,rfl,AW,cW,eW,hcW,_,_⟩:=hvW
       simp only [Value.slice.injEq] at eW
       obtain ⟨rfl,hnw,rfl⟩:=eW
       obtain ⟨m4,hm4⟩:∃ m4,z0.length=m4:=⟨_,rfl⟩
       rw [hm4] at hnw hcW
       subst hnw
       have m4b:1≤nw∧nw≤5000:=by have:=HI.out.l3 z0 hw;omega
       obtain ⟨m4a,m4b⟩:=m4b
       cases hN:numsW Qal (by8 ws) with
       | none=>
         have hb:=HBAD.out (by rw [step_sta HLW.out hw,hN])
         have HNN:=Lib.hid hN
         rw [hb]
         clear hb hw hN
         go_wp2_with (first | (go_at_call 12;refine W.mono ?_;rintro e W2 ⟨A2,c2,rfl,hc2,hmx2,hr2,hA2,hb2⟩;have HI2:=Lib.hid (HI.out.below hb2);obtain ⟨e0,e1,e2,ef,eq⟩:=Qay HI2.out.ps.box;have HR2:=Lib.hid hr2;clear hr2 hA2 hb2 e0 e2 ef) | (go_at_call 13;refine (numbers_bad HNN.out HM.out (by omega) (by omega) HWZ.out A2 c2 hc2 hmx2 W2 (HT.out.keep (HI2.out.bw H0.out)) HR2.out).mono ?_;rintro e W3 ⟨rfl,hb3⟩;have HI3:=Lib.hid (HI2.out.below hb3);clear hb3))
         exact door_wrong rfl (HI3.out.bw H0.out) (HI3.out.b2 H0.out) (HI3.out.b4 H0.out) rfl rfl rfl
       | some l=>
         obtain ⟨m3,hm3⟩:∃ m3,l.length=m3:=⟨_,rfl⟩
         have HNN:=Lib.hid hN
         have HM3:=Lib.hid hm3
         have hml:=(numsW_len hN).1
         rw [hm3] at hml
         by_cases hl:m3=1+nw
         ·have hg:=HGOOD.out {st with sta:=st.sta ++ [ix l 0],hal:=st.hal ++ [l.drop 1]} (by rw [step_sta HLW.out hw,hN];exact if_pos (by rw [hm3,hm4];exact hl))
          have HG:=Lib.hid hg
          have HL:=Lib.hid hl
          have hne:((m3:Int) != 1+(nw:Int))=false:=by rw [hl];simp
          have HL3:Hid (∀ z,st.wat=some z→1≤z.length∧z.length≤5000):=Lib.hid HI.out.l3
          have hl1:=HI.out.l1
          have hl2:=HI.out.l2
          clear hg hw hN hm3 hl
          go_wp2_with (first | (go_at_call 12;refine W.mono ?_;rintro e W2 ⟨A2,c2,rfl,hc2,hmx2,hr2,hA2,hb2⟩;have HI2:=Lib.hid (HI.out.below hb2);obtain ⟨e0,e1,e2,ef,eq⟩:=Qay HI2.out.ps.box;have HR2:=Lib.hid hr2;clear hr2 hA2 hb2 e0 e2 ef) | (go_at_call 13;refine (numbers_good HNN.out HM.out (by omega) (by omega) HWZ.out A2 c2 hc2 hmx2 W2 (HT.out.keep (HI2.out.bw H0.out)) HR2.out HM3.out).mono ?_;rintro e W3 ⟨g3,c3,rfl,hc3,hmx3,ho3,hb3⟩;have HS3:=Lib.hid (HI2.out.ps.fresh hb3 ho3);have HI3:=Lib.hid (HI2.out.below hb3);obtain ⟨i0,i1,i2,jf,jq⟩:=Qay HI3.out.ps.box;have j0:=jf 0;have x3:W3.cell? ⟨g3,0,none⟩=some (.int .i64 (ix l 0)):=(by obtain ⟨b',o',e',_,hh⟩:=ho3.rd1.ints (by rw [HM3.out];omega);cases e';exact hh 0 (by rw [HM3.out];omega));clear hb3 ho3 i2 jf))
          have hlen:st.sta.length≤1000000:=by have:=HI3.out.l1;omega
          have hlen2:vs.length≤1000000:=by have:=HI3.out.l2;have:=HI3.out.ps.len;omega
          have hqs:some (w.heap.size+1+1)≠vS.ownBlock:=fun e=>by have:=(HI3.out.ps.own.at_block e.symm).1;omega
          have hg3:some g3≠vS.ownBlock:=fun e=>by obtain ⟨_,_,e1,_,_,_,hx⟩:=HS3.out;cases e1;exact (hx _ rfl).2.2.1 e.symm
          have HQS:=Lib.hid hqs
          have HG3:=Lib.hid hg3
          clear hqs hg3
          have hb0:0 < m3:=by omega
          refine Qbs (fun w'=>w'.cell? ⟨w.heap.size+1+1,0,none⟩=some vS∧w'.cell? ⟨g3,0,none⟩=some (.int .i64 (ix l 0))) 5 (by kernel_rfl) (by kernel_rfl) ⟨i0,x3⟩ ?_
          intro K hK
          simp only [List.take_succ_cons,List.take_zero,List.drop_succ_cons,List.drop_zero]
          refine ⟨.pointer (some ⟨w.heap.size+1+1,0,none⟩),Or.inl ⟨by rfl,fun w' hS=>?_⟩,?_⟩;(· obtain ⟨s1,s2⟩:=hS;go_simp);try simp only [Act.put,List.setIfInBounds_toArray,List.set_cons_zero,List.set_cons_succ]
          refine ⟨vS,Or.inl ⟨by rfl,fun w' hS=>?_⟩,?_⟩;(· obtain ⟨s1,s2⟩:=hS;go_simp);try simp only [Act.put,List.setIfInBounds_toArray,List.set_cons_zero,List.set_cons_succ]
          refine ⟨.slice (some ⟨g3,0,none⟩) m3 c3,Or.inl ⟨by rfl,fun w' hS=>?_⟩,?_⟩;(· obtain ⟨s1,s2⟩:=hS;go_simp);try simp only [Act.put,List.setIfInBounds_toArray,List.set_cons_zero,List.set_cons_succ]
          refine ⟨.pointer (some ⟨g3,0,none⟩),Or.inl ⟨by rfl,fun w' hS=>?_⟩,?_⟩;(· obtain ⟨s1,s2⟩:=hS;go_simp);try simp only [Act.put,List.setIfInBounds_toArray,List.set_cons_zero,List.set_cons_succ]
          refine ⟨.int .i64 (ix l 0),Or.inl ⟨by rfl,fun w' hS=>?_⟩,?_⟩;(· obtain ⟨s1,s2⟩:=hS;go_simp);try simp only [Act.put,List.setIfInBounds_toArray,List.set_cons_zero,List.set_cons_succ]
          refine Qag (fun K1 hK1=>?_)
          go_simp
          refine hK1.out _ _ (fun _=>⟨cell_later (by repeat' (first | (with_reducible exact Below.refl _ _) | (with_reducible assumption) | (refine Qa (by assumption) ?_ ?_) | (with_reducible refine Qaa ?_ _) | (with_reducible refine Below.drew ?_) | (with_reducible refine Below.alloc ?_ ?_ _) | (with_reducible refine Below.setCell ?_ ?_ _) | go_size)) i0,cell_later (by repeat' (first | (with_reducible exact Below.refl _ _) | (with_reducible assumption) | (refine Qa (by assumption) ?_ ?_) | (with_reducible refine Qaa ?_ _) | (with_reducible refine Below.drew ?_) | (with_reducible refine Below.alloc ?_ ?_ _) | (with_reducible refine Below.setCell ?_ ?_ _) | go_size)) x3⟩) ?_
          clear hK1 K1
          refine Qag (fun K2 hK2=>?_)
          refine op_app2 rfl (.tmp 41) (.tmp 45) rfl (w.heap.size+1+1+1) vS st.sta rfl (HI3.out.ps.own.kept (by repeat' (first | (with_reducible exact Below.refl _ _) | (with_reducible assumption) | (refine Qa (by assumption) ?_ ?_) | (with_reducible refine Qaa ?_ _) | (with_reducible refine Below.drew ?_) | (with_reducible refine Below.alloc ?_ ?_ _) | (with_reducible refine Below.setCell ?_ ?_ _) | go_size)) (Nat.le_refl _)) _ 1 _ rfl (Qba _ _ _) hlen (by simp [Qac];omega) ?_
          intro v4 W4 hown4 hg4 hb4
          obtain ⟨gs4,cs4,rfl⟩:=hown4.formM (n:=st.sta.length+1) (by simp) (by omega)
          have k1:W4.cell? ⟨w.heap.size+1+1,0,none⟩=some vS:=hg4.cell (cell_later (by repeat' (first | (with_reducible exact Below.refl _ _) | (with_reducible assumption) | (refine Qa (by assumption) ?_ ?_) | (with_reducible refine Qaa ?_ _) | (with_reducible refine Below.drew ?_) | (with_reducible refine Below.alloc ?_ ?_ _) | (with_reducible refine Below.setCell ?_ ?_ _) | go_size)) i0) HQS.out
          have k2:W4.cell? ⟨g3,0,none⟩=some (.int .i64 (ix l 0)):=hg4.cell (cell_later (by repeat' (first | (with_reducible exact Below.refl _ _) | (with_reducible assumption) | (refine Qa (by assumption) ?_ ?_) | (with_reducible refine Qaa ?_ _) | (with_reducible refine Below.drew ?_) | (with_reducible refine Below.alloc ?_ ?_ _) | (with_reducible refine Below.setCell ?_ ?_ _) | go_size)) x3) HG3.out
          have k3:W4.frozen? ⟨w.heap.size+1+1,0,none⟩=false:=(World.frozen?_of_block (a:=⟨w.heap.size+1+1,0,none⟩) (hg4.block (w.heap.size+1+1) (by simp [Qac];omega) HQS.out)).trans ((World.frozen?_of_block (a:=⟨w.heap.size+1+1,0,none⟩) (Below.block (B:=W3.heap.size) (w:=W3) (by repeat' (first | (with_reducible exact Below.refl _ _) | (with_reducible assumption) | (refine Qa (by assumption) ?_ ?_) | (with_reducible refine Qaa ?_ _) | (with_reducible refine Below.drew ?_) | (with_reducible refine Below.alloc ?_ ?_ _) | (with_reducible refine Below.setCell ?_ ?_ _) | go_size)) (w.heap.size+1+1) jq)).trans j0)
          obtain ⟨p4,u4⟩:=(HI3.out.ps.below (Qbb W3)).sta hg4 hown4 hb4
          have hS4:=(HS3.out.up (Up.of_below (Qbb W3))).up u4
          have hX4:=(HI3.out.rx.up (Up.of_below (Qbb W3))).up u4
          have hB4:Below (w.heap.size+1+1) W1 (W4.setCell ⟨w.heap.size+1+1,0,none⟩ (.slice (some ⟨gs4,0,none⟩) (st.sta.length+1) cs4)):=(((Qaa HI3.out.bel 1).alloc (by simp [Qac];omega) _).grown hg4 (by simp [Qac];omega) (fun b hb=>by have:=(HI3.out.ps.own.at_block hb).1;omega)).setCell (Nat.le_refl _) _
          have HP4:=Lib.hid p4
          have HS4:=Lib.hid hS4
          have HX4:=Lib.hid hX4
          have HB4:=Lib.hid hB4
          clear hown4 hg4 hb4 p4 u4 hS4 hX4 hB4
          refine hK2.out _ _ (fun _=>⟨k1,k2⟩) ?_
          clear hK2 K2
          refine Qag (fun K3 hK3=>?_)
          go_simp
          refine hK3.out _ _ (fun _=>⟨k1,k2⟩) ?_
          clear hK3 K3
          refine Qag (fun K4 hK4=>?_)
          go_simp
          refine hK4.out _ _ (fun h=>absurd rfl h) ?_
          clear hK4 K4
          refine ⟨rfl,hK.out _ _ ?_⟩
          clear hK K
          obtain ⟨V4,hV4⟩:∃ V,W4.setCell ⟨w.heap.size+1+1,0,none⟩ (.slice (some ⟨gs4,0,none⟩) (st.sta.length+1) cs4)=V:=⟨_,rfl⟩
          rw [hV4] at HP4 HS4 HX4 HB4 ⊢
          obtain ⟨_,_,n2,nf,nq⟩:=Qay HP4.out.box
          have nf2:=nf 2
          have hc31: ¬ c3=1:=by have:=HL.out;omega
          have hm31:(1:Int)≤(m3:Int):=by omega
          clear k1 k2 k3 hV4 i0 i1 j0 jq x3 nf HI3 HS3 HI2 HQS HG3
          go_wp2
          refine Qbs (fun w'=>w'.cell? ⟨w.heap.size+1+1,2,none⟩=some vH) 4 (by kernel_rfl) (by kernel_rfl) n2 ?_
          intro K hK
          simp only [List.take_succ_cons,List.take_zero,List.drop_succ_cons,List.drop_zero]
          refine ⟨.pointer (some ⟨w.heap.size+1+1,2,none⟩),Or.inl ⟨by rfl,fun w' hS=>?_⟩,?_⟩;(· go_simp);try simp only [Act.put,List.setIfInBounds_toArray,List.set_cons_zero,List.set_cons_succ]
          refine ⟨vH,Or.inl ⟨by rfl,fun w' hS=>?_⟩,?_⟩;(· go_simp);try simp only [Act.put,List.setIfInBounds_toArray,List.set_cons_zero,List.set_cons_succ]
          refine ⟨.slice (some ⟨g3,0,none⟩) m3 c3,Or.inl ⟨by rfl,fun w' hS=>?_⟩,?_⟩;(· go_simp);try simp only [Act.put,List.setIfInBounds_toArray,List.set_cons_zero,List.set_cons_succ]
          refine ⟨.slice (some ⟨g3,1,none⟩) (m3 - 1) (c3 - 1),Or.inl ⟨by rfl,fun w' hS=>?_⟩,?_⟩;(· go_simp);try simp only [Act.put,List.setIfInBounds_toArray,List.set_cons_zero,List.set_cons_succ]
          refine Qag (fun K1 hK1=>?_)
          go_simp
          refine hK1.out _ _ (fun _=>cell_later (by repeat' (first | (with_reducible exact Below.refl _ _) | (with_reducible assumption) | (refine Qa (by assumption) ?_ ?_) | (with_reducible refine Qaa ?_ _) | (with_reducible refine Below.drew ?_) | (with_reducible refine Below.alloc ?_ ?_ _) | (with_reducible refine Below.setCell ?_ ?_ _) | go_size)) n2) ?_
          clear hK1 K1
          refine Qag (fun K2 hK2=>?_)
          refine op_appR2 rfl (.tmp 49) (.tmp 52) rfl (w.heap.size+1+1+1) vH vs rfl (HP4.out.ownH.kept (by repeat' (first | (with_reducible exact Below.refl _ _) | (with_reducible assumption) | (refine Qa (by assumption) ?_ ?_) | (with_reducible refine Qaa ?_ _) | (with_reducible refine Below.drew ?_) | (with_reducible refine Below.alloc ?_ ?_ _) | (with_reducible refine Below.setCell ?_ ?_ _) | go_size)) (Nat.le_refl _)) _ 1 _ _ _ rfl (Qba _ _ _) hlen2 (by simp [Qac];omega) ?_
          intro v5 W5 hown5 hg5 hb5
          have hqh:some (w.heap.size+1+1)≠vH.ownBlock:=fun e=>by have:=(HP4.out.ownH.at_block e.symm).1;omega
          obtain ⟨A5,c5,rfl,_⟩:=hown5.formN (n:=vs.length+1) (by simp)
          have k1:W5.cell? ⟨w.heap.size+1+1,2,none⟩=some vH:=hg5.cell (cell_later (by repeat' (first | (with_reducible exact Below.refl _ _) | (with_reducible assumption) | (refine Qa (by assumption) ?_ ?_) | (with_reducible refine Qaa ?_ _) | (with_reducible refine Below.drew ?_) | (with_reducible refine Below.alloc ?_ ?_ _) | (with_reducible refine Below.setCell ?_ ?_ _) | go_size)) n2) hqh
          have k3:W5.frozen? ⟨w.heap.size+1+1,2,none⟩=false:=(World.frozen?_of_block (a:=⟨w.heap.size+1+1,2,none⟩) (hg5.block (w.heap.size+1+1) (by simp [Qac];omega) hqh)).trans ((World.frozen?_of_block (a:=⟨w.heap.size+1+1,2,none⟩) (Below.block (B:=V4.heap.size) (w:=V4) (by repeat' (first | (with_reducible exact Below.refl _ _) | (with_reducible assumption) | (refine Qa (by assumption) ?_ ?_) | (with_reducible refine Qaa ?_ _) | (with_reducible refine Below.drew ?_) | (with_reducible refine Below.alloc ?_ ?_ _) | (with_reducible refine Below.setCell ?_ ?_ _) | go_size)) (w.heap.size+1+1) nq)).trans nf2)
          obtain ⟨p5,u5⟩:=(HP4.out.below (Qbb V4)).hal ((HS4.out.drop (by omega)).up (Up.of_below (Qbb V4))) hg5 hown5 hb5
          have HX5:=Lib.hid ((HX4.out.up (Up.of_below (Qbb V4))).up u5)
          have HP5:=Lib.hid p5
          have HB5:=Lib.hid ((((Qaa HB4.out 1).alloc (by simp [Qac];omega) (.cells #[.slice (some ⟨g3,1,none⟩) (m3 - 1) (c3 - 1)] 22)).grown hg5 (by simp [Qac];omega) (fun b hb=>by have:=(HP4.out.ownH.at_block hb).1;omega)).setCell (p:=⟨w.heap.size+1+1,2,none⟩) (Nat.le_refl _) (.slice A5 (vs.length+1) c5))
          clear hown5 hg5 hb5 p5 u5 hqh
          refine hK2.out _ _ (fun _=>k1) ?_
          clear hK2 K2
          refine Qag (fun K3 hK3=>?_)
          go_simp
          refine hK3.out _ _ (fun _=>k1) ?_
          clear hK3 K3
          refine Qag (fun K4 hK4=>?_)
          go_simp
          refine hK4.out _ _ (fun h=>absurd rfl h) ?_
          clear hK4 K4
          refine ⟨rfl,hK.out _ _ ?_⟩
          clear hK K n2 k1 k3
          obtain ⟨V5,hV5⟩:∃ V,W5.setCell ⟨w.heap.size+1+1,2,none⟩ (.slice A5 (vs.length+1) c5)=V:=⟨_,rfl⟩
          rw [hV5] at HP5 HX5 HB5 ⊢
          clear hV5
          go_wp2
          go_roundw
          case rel=>exact ⟨k+1,(k:Int)+1,_,_,_,_,_,by omega,by go_num,rfl,⟨HP5.out,HX5.out,HB5.out,HG.out,by simp only [List.length_append,List.length_singleton];omega,by simp only [List.length_append,List.length_singleton];omega,HL3.out⟩⟩
          case measure=>simp [intOf];omega
         ·have hb:=HBAD.out (by rw [step_sta HLW.out hw,hN];exact if_neg (by rw [hm3,hm4];exact hl))
          rw [hb]
          clear hb hw hN hm3
          go_wp2_with (first | (go_at_call 12;refine W.mono ?_;rintro e W2 ⟨A2,c2,rfl,hc2,hmx2,hr2,hA2,hb2⟩;have HI2:=Lib.hid (HI.out.below hb2);obtain ⟨e0,e1,e2,ef,eq⟩:=Qay HI2.out.ps.box;have HR2:=Lib.hid hr2;clear hr2 hA2 hb2 e0 e2 ef) | (go_at_call 13;refine (numbers_good HNN.out HM.out (by omega) (by omega) HWZ.out A2 c2 hc2 hmx2 W2 (HT.out.keep (HI2.out.bw H0.out)) HR2.out HM3.out).mono ?_;rintro e W3 ⟨g3,c3,rfl,hc3,hmx3,ho3,hb3⟩;have HI3:=Lib.hid (HI2.out.below hb3);obtain ⟨i0,i1,i2,jf,jq⟩:=Qay HI3.out.ps.box;clear hb3 ho3 i0 i2 jf))
          exact door_wrong rfl (HI3.out.bw H0.out) (HI3.out.b2 H0.out) (HI3.out.b4 H0.out) rfl rfl rfl
  ·obtain rfl:k=n:=by omega
   have hrun:=HI.out.run
   rw [List.drop_eq_nil_of_le (by rw [all_len,HN.out];exact Nat.le_refl _)] at hrun
   have hlen:(Qaj s.data.toList).length=k:=by rw [←HN.out, ←lineB_eq];unfold by8;rw [List.length_map]
   obtain ⟨e0,e1,e2,ef,eq⟩:=Qay HI.out.ps.box
   cases hw:st.wat with
   | none=>
     have hvW:vW= .slice none 0 0:=by have:=HI.out.ps.wat;rw [hw] at this;exact this
     subst hvW
     have hb:parW s.data.toList=⟨[],[],[],((k:Int)+1),5⟩:=by
       unfold parW
       rw [if_neg (show ¬ 4000 < s.data.toList.length by rw [Array.length_toList];exact h),hrun,hlen]
       show (match st.wat with | none=>_ | some z=>_)=_
       rw [hw]
     have HBB:=Lib.hid hb
     clear hb hw hrun hlen e0 e2 ef
     go_wp2_with fail
     exact door_wrong HBB.out (HI.out.bw H0.out) (HI.out.b2 H0.out) (HI.out.b4 H0.out) rfl rfl rfl
   | some z0=>
     have hvW:=HI.out.ps.wat
     rw [hw] at hvW
     obtain ⟨aw,nw,cw,rfl,_⟩:=hvW
     obtain ⟨A1,c1,rfl,_⟩:=HI.out.ps.own.form
     obtain ⟨A3,c3,rfl,_⟩:=HI.out.ps.ownH.form
     have HW:=Lib.hid hw
     obtain ⟨t1,t2,t3,htd⟩:=HI.out.ps.td hw (fun b _=>rfl) (Nat.le_refl _) rfl rfl rfl
     subst t2
     rw [t3] at e2
     cases hB:Qav st.sta z0 st.hal with
     | false=>
       have hb:parW s.data.toList=⟨[],[],[],0,13⟩:=by
         unfold parW
         rw [if_neg (show ¬ 4000 < s.data.toList.length by rw [Array.length_toList];exact h),hrun]
         show (match st.wat with | none=>_ | some z=>_)=_
         rw [hw]
         exact if_neg (by rw [hB];exact Bool.false_ne_true)
       have T:=Qcz hB A1 c1 _ _ A3 c3 vs wr htd
       have HBB:=Lib.hid hb
       clear hb hw hrun hlen hB htd ef
       go_wp2_with (go_at_call 14;refine T.mono ?_;rintro e W5 ⟨rfl,hb5⟩;have HI5:=Lib.hid (HI.out.below hb5);have HF:=fin (w:=w) (W:=W5) (.slice none 0 0) (.slice none 0 0) (.slice none 0 0) 13 (HI5.out.b2 H0.out) (HI5.out.b4 H0.out);have m0:=HF.c0;have m1:=HF.c1;have m2:=HF.c2;have m3:=HF.c4;have n0:=HF.f0;have n1:=HF.f1;have n2:=HF.f2;have n3:=HF.f4;have HFF:=Lib.hid HF;clear HF hb5)
       exact door_ret (by rw [HBB.out];exact Qcq 0 13 (HFF.out.bel (HI5.out.bw H0.out))) HFF.out.b2 HFF.out.b4 rfl rfl rfl
     | true=>
       have hb:parW s.data.toList=⟨st.sta,z0,st.hal,0,0⟩:=by
         unfold parW
         rw [if_neg (show ¬ 4000 < s.data.toList.length by rw [Array.length_toList];exact h),hrun]
         show (match st.wat with | none=>_ | some z=>_)=_
         rw [hw]
         exact if_pos hB
       have T:=Qcz hB A1 c1 _ _ A3 c3 vs wr htd
       have HBB:=Lib.hid hb
       clear hb hw hrun hlen hB htd ef
       go_wp2_with (go_at_call 14;refine T.mono ?_;rintro e W5 ⟨rfl,hb5⟩;have HI5:=Lib.hid (HI.out.below hb5);obtain ⟨a0,a1,a2,_,_⟩:=Qay HI5.out.ps.box;rw [t3] at a2;have HF:=fin (w:=w) (W:=W5) (.slice A1 st.sta.length c1) (.slice (some aw) z0.length cw) (.slice A3 st.hal.length c3) 0 (HI5.out.b2 H0.out) (HI5.out.b4 H0.out);have m0:=HF.c0;have m1:=HF.c1;have m2:=HF.c2;have m3:=HF.c4;have n0:=HF.f0;have n1:=HF.f1;have n2:=HF.f2;have n3:=HF.f4;have HFF:=Lib.hid HF;clear HF hb5)
       obtain ⟨_,_,_,htd⟩:=HI5.out.ps.td HW.out HFF.out.rest HFF.out.size rfl rfl rfl
       exact door_ret (by rw [HBB.out];exact ⟨A1,c1,some aw,cw,A3,c3,vs,rfl,htd,HFF.out.bel (HI5.out.bw H0.out)⟩) HFF.out.b2 HFF.out.b4 rfl rfl rfl
end Go.Proofs.YtdlmdaononclgaaGreatDoor
