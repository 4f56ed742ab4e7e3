import Derived.Test.YtjflgemfeofciaaGreatDoorQu4
namespace Go.Proofs.YtjflgemfeofciaaGreatDoor
open Go Go.Ev
set_option linter.unusedVariables false
set_option linter.unusedSimpArgs false
set_option maxRecDepth 10000
def w64 (n:Int):Int:=IntKind.i64.wrap n
def Piece.val (p:Piece) (n:Int):Int:=w64 (p.base+w64 (p.rate * n))
def pixF (n:Int):List Piece→Nat→Nat
 | [],k=>k
 | q :: r,k=>if q.fr≤n then pixF n r (k+1) else k
def pix (n:Int) (l:List Piece):Nat:=pixF n (l.drop 1) 0
def closV (l:List Piece) (n:Int):Int:=match l[pix n l]? with
 | some p=>p.val n
 | none=>0
def rvF (n:Int):List Piece→Int→Int
 | [],out=>out
 | q :: r,out=>if q.fr≤n then rvF n r (q.val n) else out
def refV (l:List Piece) (n:Int):Int:=rvF n l 0
theorem pieceOf_ok (l:List Piece) (n:Int) (v:V) (g:G) (h:RS PieceR 3 g v l):Fv Tryz.prog natS (.f 137 [] []) [v,.i .i64 n] g (.i .i64 (pix n l:Int)):=by
 refine Fw.fv ?_
 have hlen:=h.1
 refine Fw.enter (N:=24) (al:=[(1,_),(0,_)]) Tryz.func137 (by kernel_rfl) (by kernel_rfl) rfl rfl rfl rfl ?_
 intro B
 refine .seq<|.region rfl<|.z rfl rfl<|.nil<|sq_n<|.seq<|.region rfl<|.z rfl rfl<|.nil<|sq_n<|.seq<|.block<|.loopx (α:=Nat) [(0,_),(1,_)] _ (fun fx k=>(5,.i .i64 (k:Int)) :: fx) (fun mx _=>mx) (fun k g'=>(k=0∨k < l.length)∧pixF n (l.drop (k+1)) k=pix n l) (fun k=>l.length - k) (0) ⟨rfl,rfl,rfl,trivial⟩ (List.Sublist.refl _) ⟨.inl rfl,rfl⟩ ?_
 intro k g2 hle1 hJ
 obtain ⟨hk,hg⟩:=hJ
 replace h:=h.mono PieceR.mono hle1
 have hk9:k < 9223372036854775807:=by omega
 refine .seq<|.seq<|.region rfl<|.m rfl rfl<|.q (.inc1 rfl rfl (by omega))<|.m rfl rfl<|.q (.lenR rfl rfl rfl e_93 h)<|.b rfl rfl rfl rfl<|.m rfl rfl<|.split (t:=11) rfl (fun h3=>?_) (fun h3=>?_)
 ·have kh3:=h3;(try simp only [bk] at kh3)
  refine .py h3 (.move rfl)<|.py h3 (.move rfl)<|.py h3 (.inc1 rfl rfl (by omega))<|.ixn (.yes rfl rfl h3) rfl rfl h rfl e_93 (by omega) ?_
  intro b4 o4 cs4 y4 hy4 hq4 hr4
  obtain rfl:=hr4
  refine .py h3 (.fa rfl Qai)<|.wy h3 (.ps 0 rfl hq4 rfl a_3 rfl)<|.py h3 (.move rfl)<|.py h3 (.bin rfl rfl rfl)<|.q (.pickT rfl h3 rfl)<|.nil<|sq_n<|.cond rfl (fun h5=>?_) (fun h5=>?_)
  ·have kh5:=h5;(try simp only [bk] at kh5)
   refine .skip<|sq_n<|.block<|.region rfl<|.m rfl rfl<|.q (.inc1 rfl rfl (by omega))<|.z rfl rfl<|.nil<|bq_n<|Qac (k+1) ⟨rfl,rfl,rfl,trivial⟩ (List.Sublist.refl _) (Le.refl _) ?_ ?_
   ·refine ⟨by omega,?_⟩;rw [←hg,dc (k:=k+1) ‹_›];simp only [pixF];rw [if_pos (by omega)]
   ·omega
  ·have kh5:=h5;(try simp only [bk] at kh5)
   refine .exit<|sq_e<|lq_e<|bq_x rfl<|sq_n<|.seq<|.region rfl<|.m rfl rfl<|.z rfl rfl<|.nil<|sq_n<|.ret<|Qaa hle1 (.tmp rfl .nil) rfl<|congrArg (V.i .i64) ?_
   rw [←hg]
   first
    | (rw [dc (k:=k+1) ‹_›];simp only [pixF];rw [if_neg (by omega)])
 ·have kh3:=h3;(try simp only [bk] at kh3)
  refine .k h3<|.k h3<|.k h3<|.k h3<|.k h3<|.k h3<|.k h3<|.k h3<|.q (.pickF rfl h3 rfl)<|.nil<|sq_n<|.condF rfl rfl<|.exit<|sq_e<|lq_e<|bq_x rfl<|sq_n<|.seq<|.region rfl<|.m rfl rfl<|.z rfl rfl<|.nil<|sq_n<|.ret<|Qaa hle1 (.tmp rfl .nil) rfl<|congrArg (V.i .i64) ?_
  rw [←hg]
  first
   | (rw [dn (by omega)];rfl)
theorem Qcj (v:V) (hv:v.any? =false) (hc:v.cells=[v]) (g:G):Fw Tryz.prog natS (.f 90 [] []) [v] g [] fun g' ml' r=>∃ b,ml'=[]∧r= .f 136 [] [.p b 0]∧g' b=some (.cells [v] 93):=by
 refine Fw.enter (N:=4) (al:=[(0,_)]) Tryz.func90 (by kernel_rfl) (by kernel_rfl) rfl rfl rfl rfl ?_
 intro B
 refine .seq<|.region rfl<|.box .no rfl rfl hv hc fun b1=>.z rfl rfl<|.nil<|sq_n<|.seq<|.region rfl<|.q (.mf rfl rfl)<|.z rfl rfl<|.nil<|sq_n<|.freeze .hd ?_
 intro g2 hle3 hg9
 refine .ret<|Qaa hle3 (.tmp rfl .nil) rfl ?_
 exact ⟨_,rfl,rfl,hg9⟩
theorem Qae (l:List Piece) (n:Int) (v:V) (b:Nat) (g:G) (hb:g b=some (.cells [v] 93)) (h:RS PieceR 3 g v l):Fv Tryz.prog natS (.f 136 [] [.p b 0]) [.i .i64 n] g (.i .i64 (closV l n)):=by
 refine Fw.fv ?_
 have hlen:=h.1
 refine Fw.enter (N:=25) (al:=[(1,_),(0,_)]) Tryz.func136 (by kernel_rfl) (by kernel_rfl) rfl rfl rfl rfl ?_
 intro B
 refine .seq<|.region rfl<|.z rfl rfl<|.nil<|sq_n<|.seq<|.region rfl<|.w (.s rfl (.g hb) a_93 rfl)<|.m rfl rfl<|.callV .no rfl rfl rfl (pieceOf_ok _ _ _ _ h)<|.z rfl rfl<|.nil<|sq_n<|.seq<|.seq<|.region rfl<|.m rfl rfl<|.w (.s rfl (.g hb) a_93 rfl)<|.q (.lenR rfl rfl rfl e_93 h)<|.b rfl rfl rfl rfl<|.nil<|sq_n<|.cond rfl (fun h1=>?_) (fun h1=>?_)
 ·have kh1:=h1;(try simp only [bk] at kh1)
  refine .seq<|.region rfl<|.z rfl rfl<|.nil<|sq_n<|.ret<|sq_r<|Qaa (Le.refl _) (.tmp rfl .nil) rfl<|congrArg (V.i .i64) ?_
  unfold closV
  first
   | (rw [List.getElem?_eq_none (by omega)])
 ·have kh1:=h1;(try simp only [bk] at kh1)
  refine .skip<|sq_n<|.seq<|.draw (tb:=[r0 0 0,r0 0 0,r0 3 0,r0 7 0,r0 15 0,r0 0 0,r0 0 0,r0 96 0,r0 224 0,r0 480 0,r0 0 0,r0 2016 0,r1 4095 0,r1 8191 0]) rfl (by kernel_rfl) (by kernel_rfl) ?_
  refine .y rfl rfl rfl (.s rfl (.g hb) a_93 rfl)<|.m rfl rfl<|.ixn .no rfl rfl h rfl e_93 (by omega) ?_
  intro b2 o2 cs2 y2 hy2 hq2 hr2
  obtain rfl:=hr2
  refine .q (.fa rfl f_157_1)<|.y rfl rfl rfl (.ps 1 rfl hq2 rfl a_3 rfl)<|.y rfl rfl rfl (.s rfl (.g hb) a_93 rfl)<|.m rfl rfl<|.ixn .no rfl rfl h rfl e_93 (by omega) ?_
  intro b3 o3 cs3 y3 hy3 hq3 hr3
  obtain rfl:y2=y3:=Option.some.inj (hy2.symm.trans hy3)
  obtain rfl:=hr3
  refine .q (.fa rfl f_157_2)<|.y rfl rfl rfl (.ps 2 rfl hq3 rfl a_3 rfl)<|.m rfl rfl<|.b rfl rfl rfl rfl<|.b rfl rfl rfl rfl<|.z rfl rfl<|.nil<|sq_n<|.ret<|Qaa (Le.refl _) (.tmp rfl .nil) rfl<|congrArg (V.i .i64) ?_
  unfold closV
  first
   | (rw [show l[pix n l]? =some _ from ‹_›];rfl)
end Go.Proofs.YtjflgemfeofciaaGreatDoor
