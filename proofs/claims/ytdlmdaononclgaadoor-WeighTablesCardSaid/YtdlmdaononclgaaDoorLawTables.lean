import Derived.Test.YtdlmdaononclgaaDoorPrtW
import Derived.Test.YtdlmdaononclgaaDoorGridR
import Derived.Test.YtdlmdaononclgaaDoorSane
/- WeighTables: the walk. -/
namespace Go.Proofs.YtdlmdaononclgaaDoor
open Go.RowKit
set_option linter.unusedVariables false
set_option linter.unusedSimpArgs false

set_option maxHeartbeats 8000000 in
set_option maxRecDepth 100000 in
theorem weighTables_walk (xs zs : List Int) (rs : List (List Int)) (A1 : Option Addr) (c1 : Nat) (A2 : Option Addr) (c2 : Nat) (A3 : Option Addr) (c3 : Nat) (vs : List Value) (w : World) (h : TD w w.heap.size xs zs rs A1 c1 A2 c2 A3 c3 vs) (hp : Pow w) :
    Calls Tryd.prog 3 #[.agg #[.slice A1 xs.length c1, .slice A2 zs.length c2, .slice A3 rs.length c3]] w fun e w' => e = .returned (.bool true) ∧ Below w.heap.size w w' := by
  have hk : ∀ W, Below w.heap.size w W → TD W W.heap.size xs zs rs A1 c1 A2 c2 A3 c3 vs := fun W hB => (h.keep hB (Nat.le_refl _)).more hB.size
  have G1 : Hid (∀ W, Below w.heap.size w W → Calls Tryd.prog 4 #[.slice A1 xs.length c1, .slice A2 zs.length c2] W (RetRR (gridV xs zs) (gridE xs zs) W)) := Lib.hid (fun W hB => Grid_any xs zs A1 c1 A2 c2 h.hc1 h.hm1 h.hc2 h.hm2 W (hk W hB).rd1 (hk W hB).rd2)
  have G2 : Hid (∀ W, Below w.heap.size w W → Calls Tryd.prog 5 #[.slice A1 xs.length c1, .slice A2 zs.length c2] W (RetRR (gridV xs zs) (gridE xs zs) W)) := Lib.hid (fun W hB => refGrid_any xs zs A1 c1 A2 c2 h.hc1 h.hm1 h.hc2 h.hm2 W (hk W hB).rd1 (hk W hB).rd2)
  have V1 : Hid (∀ W, Below w.heap.size w W → Calls Tryd.prog 6 #[.agg #[.slice A1 xs.length c1, .slice A2 zs.length c2, .slice A3 rs.length c3]] W fun e w' => e = .returned (.tuple #[.int .i64 (volV xs zs rs), .int .i64 (tabE xs zs rs)]) ∧ Below W.heap.size W w') := Lib.hid (fun W hB => Volume_any A1 c1 A2 c2 A3 c3 vs W (hk W hB))
  have V2 : Hid (∀ W, Below w.heap.size w W → Calls Tryd.prog 7 #[.agg #[.slice A1 xs.length c1, .slice A2 zs.length c2, .slice A3 rs.length c3]] W fun e w' => e = .returned (.tuple #[.int .i64 (volV xs zs rs), .int .i64 (tabE xs zs rs)]) ∧ Below W.heap.size W w') := Lib.hid (fun W hB => refVolume_any A1 c1 A2 c2 A3 c3 vs W (hk W hB))
  have L1 : Hid (∀ W, Below w.heap.size w W → Calls Tryd.prog 8 #[.agg #[.slice A1 xs.length c1, .slice A2 zs.length c2, .slice A3 rs.length c3]] W fun e w' => e = .returned (.tuple #[.int .i64 (litV xs zs rs), .int .i64 (tabE xs zs rs)]) ∧ Below W.heap.size W w') := Lib.hid (fun W hB => Litres_any A1 c1 A2 c2 A3 c3 vs W (hk W hB))
  have L2 : Hid (∀ W, Below w.heap.size w W → Calls Tryd.prog 9 #[.agg #[.slice A1 xs.length c1, .slice A2 zs.length c2, .slice A3 rs.length c3]] W fun e w' => e = .returned (.tuple #[.int .i64 (litV xs zs rs), .int .i64 (tabE xs zs rs)]) ∧ Below W.heap.size W w') := Lib.hid (fun W hB => refLitres_any A1 c1 A2 c2 A3 c3 vs W (hk W hB))
  have P1 : Hid (∀ W, Below w.heap.size w W → Calls Tryd.prog 10 #[.agg #[.slice A1 xs.length c1, .slice A2 zs.length c2, .slice A3 rs.length c3]] W fun e w' => e = .returned (.tuple #[.string ⟨(printV xs zs rs).toArray⟩, .int .i64 (tabE xs zs rs)]) ∧ Below W.heap.size W w') := Lib.hid (fun W hB => Print_any A1 c1 A2 c2 A3 c3 vs W (hk W hB) (hp.keep hB))
  have P2 : Hid (∀ W, Below w.heap.size w W → Calls Tryd.prog 11 #[.agg #[.slice A1 xs.length c1, .slice A2 zs.length c2, .slice A3 rs.length c3]] W fun e w' => e = .returned (.tuple #[.string ⟨(printV xs zs rs).toArray⟩, .int .i64 (tabE xs zs rs)]) ∧ Below W.heap.size W w') := Lib.hid (fun W hB => refPrint_any A1 c1 A2 c2 A3 c3 vs W (hk W hB))
  have T1 : Hid (∀ W, Below w.heap.size w W → Calls Tryd.prog 13 #[.agg #[.slice A1 xs.length c1, .slice A2 zs.length c2, .slice A3 rs.length c3]] W fun e w' => e = .returned (.int .i64 (tabE xs zs rs)) ∧ Below W.heap.size W w') := Lib.hid (fun W hB => CheckTable_any A1 c1 A2 c2 A3 c3 vs W (hk W hB))
  have T2 : Hid (∀ W, Below w.heap.size w W → Calls Tryd.prog 14 #[.agg #[.slice A1 xs.length c1, .slice A2 zs.length c2, .slice A3 rs.length c3]] W fun e w' => e = .returned (.int .i64 (tabE xs zs rs)) ∧ Below W.heap.size W w') := Lib.hid (fun W hB => refCheckTable_any A1 c1 A2 c2 A3 c3 vs W (hk W hB))
  obtain ⟨gv, hgv⟩ : ∃ g, gridV xs zs = g := ⟨_, rfl⟩
  obtain ⟨ge, hge⟩ : ∃ g, gridE xs zs = g := ⟨_, rfl⟩
  obtain ⟨vv, hvv⟩ : ∃ g, volV xs zs rs = g := ⟨_, rfl⟩
  obtain ⟨lv, hlv⟩ : ∃ g, litV xs zs rs = g := ⟨_, rfl⟩
  obtain ⟨te, hte⟩ : ∃ g, tabE xs zs rs = g := ⟨_, rfl⟩
  obtain ⟨pv, hpv⟩ : ∃ g : List UInt8, printV xs zs rs = g := ⟨_, rfl⟩
  obtain ⟨n1, hn1⟩ : ∃ n, xs.length = n := ⟨_, rfl⟩
  obtain ⟨n2, hn2⟩ : ∃ n, zs.length = n := ⟨_, rfl⟩
  obtain ⟨n3, hn3⟩ : ∃ n, rs.length = n := ⟨_, rfl⟩
  rw [hgv, hge, hn1, hn2] at G1 G2
  rw [hvv, hte, hn1, hn2, hn3] at V1 V2
  rw [hlv, hte, hn1, hn2, hn3] at L1 L2
  rw [hpv, hte, hn1, hn2, hn3] at P1 P2
  rw [hte, hn1, hn2, hn3] at T1 T2
  rw [hn1, hn2, hn3]
  obtain ⟨gn, hgn⟩ : ∃ n, gv.length = n := ⟨_, rfl⟩
  have GN := Lib.hid hgn
  clear hgv hge hvv hlv hte hpv hn1 hn2 hn3 hk h hp hgn
  have B0 : Below w.heap.size w (w.alloc (.cells #[.slice A1 n1 c1, .slice A2 n2 c2, .slice A3 n3 c3] 25)) := Below.alloc (Below.refl _ _) (Nat.le_refl _) _
  have HB0 := Lib.hid B0
  clear B0
  go_enter Tryd.func3, Tryd.ntmps3
  go_wp2_with fail
  refine (G1.out _ HB0.out).mono ?_
  rintro e W1 ⟨A4, c4, us, rfl, hc4, hm4, hr4, hb1⟩
  rw [GN.out] at hc4 ⊢
  obtain ⟨d0, d1, d2⟩ := cells_box3 hb1
  have HB1 := Lib.hid (below_step hb1 HB0.out HB0.out.size)
  have HR4 := Lib.hid hr4
  clear hb1 hr4
  go_wp2_with fail
  refine (G2.out _ HB1.out).mono ?_
  rintro e W2 ⟨A5, c5, us2, rfl, hc5, hm5, hr5, hb2⟩
  rw [GN.out] at hc5 ⊢
  have SR : Hid (∀ W, Below W2.heap.size W2 W → Calls Tryd.prog 12 #[.slice A4 gn c4, .slice A5 gn c5] W fun e w' => e = .returned (.bool true) ∧ Below W.heap.size W w') := Lib.hid (fun W hB => SameRows_same GN.out A4 c4 A5 c5 us us2 hc4 hm4 hc5 hm5 W (((HR4.out.keep hb2 (Nat.le_refl _)).more hb2.size |>.keep hB (Nat.le_refl _)).more hB.size) ((hr5.keep hB (Nat.le_refl _)).more hB.size))
  have e0 := cell_later hb2 d0
  have e1 := cell_later hb2 d1
  have e2 := cell_later hb2 d2
  have HB2 := Lib.hid (below_step hb2 HB1.out HB1.out.size)
  clear hb2 hr5 HR4 d0 d1 d2 G1 G2 hc4 hm4 hc5 hm5 HB1 HB0
  have X : Hid (∀ V, Below W2.heap.size W2 V → V.cell? ⟨w.heap.size, 0, none⟩ = some (.slice A1 n1 c1) ∧ V.cell? ⟨w.heap.size, 1, none⟩ = some (.slice A2 n2 c2) ∧ V.cell? ⟨w.heap.size, 2, none⟩ = some (.slice A3 n3 c3)) := Lib.hid (fun V hV => ⟨cell_later hV e0, cell_later hV e1, cell_later hV e2⟩)
  go_wp2_with fail
  refine (V1.out _ HB2.out).mono ?_
  rintro e W3 ⟨rfl, hb⟩
  have K3 := Lib.hid hb
  clear e0 e1 e2 hb
  obtain ⟨e0, e1, e2⟩ := X.out _ K3.out
  go_wp2_with fail
  refine (V2.out _ (below_step K3.out HB2.out HB2.out.size)).mono ?_
  rintro e W4 ⟨rfl, hb⟩
  have K4 := Lib.hid (below_step hb K3.out K3.out.size)
  clear e0 e1 e2 hb K3
  obtain ⟨e0, e1, e2⟩ := X.out _ K4.out
  go_wp2_with fail
  refine (L1.out _ (below_step K4.out HB2.out HB2.out.size)).mono ?_
  rintro e W5 ⟨rfl, hb⟩
  have K5 := Lib.hid (below_step hb K4.out K4.out.size)
  clear e0 e1 e2 hb K4
  obtain ⟨e0, e1, e2⟩ := X.out _ K5.out
  go_wp2_with fail
  refine (L2.out _ (below_step K5.out HB2.out HB2.out.size)).mono ?_
  rintro e W6 ⟨rfl, hb⟩
  have K6 := Lib.hid (below_step hb K5.out K5.out.size)
  clear e0 e1 e2 hb K5
  obtain ⟨e0, e1, e2⟩ := X.out _ K6.out
  go_wp2_with fail
  refine (P1.out _ (below_step K6.out HB2.out HB2.out.size)).mono ?_
  rintro e W7 ⟨rfl, hb⟩
  have K7 := Lib.hid (below_step hb K6.out K6.out.size)
  clear e0 e1 e2 hb K6
  obtain ⟨e0, e1, e2⟩ := X.out _ K7.out
  go_wp2_with fail
  refine (P2.out _ (below_step K7.out HB2.out HB2.out.size)).mono ?_
  rintro e W8 ⟨rfl, hb⟩
  have K8 := Lib.hid (below_step hb K7.out K7.out.size)
  clear e0 e1 e2 hb K7
  go_wp2_with fail
  refine (SR.out _ K8.out).mono ?_
  rintro e W9 ⟨rfl, hb⟩
  have K9 := Lib.hid (below_step hb K8.out K8.out.size)
  clear hb K8 SR
  obtain ⟨e0, e1, e2⟩ := X.out _ K9.out
  clear V1 V2 L1 L2 P1 P2 X
  have T1' : Hid (∀ W, Below W9.heap.size W9 W → Calls Tryd.prog 13 #[.agg #[.slice A1 n1 c1, .slice A2 n2 c2, .slice A3 n3 c3]] W fun e w' => e = .returned (.int .i64 te) ∧ Below W.heap.size W w') := Lib.hid (fun W hB => T1.out W (below_step hB (below_step K9.out HB2.out HB2.out.size) (below_step K9.out HB2.out HB2.out.size).size))
  have T2' : Hid (∀ W, Below W9.heap.size W9 W → Calls Tryd.prog 14 #[.agg #[.slice A1 n1 c1, .slice A2 n2 c2, .slice A3 n3 c3]] W fun e w' => e = .returned (.int .i64 te) ∧ Below W.heap.size W w') := Lib.hid (fun W hB => T2.out W (below_step hB (below_step K9.out HB2.out HB2.out.size) (below_step K9.out HB2.out HB2.out.size).size))
  clear T1 T2
  go_wp2_with fail
  have ka0 := Kd.cell e0
  have ka1 := Kd.cell e1
  have ka2 := Kd.cell e2
  clear e0 e1 e2
  refine region_kept (by kernel_rfl) (by kernel_rfl) ?_
  repeat (go_big_quiet_step ((first | (go_at_call 13; exact kept_call (T1'.out _ (Kd.ok _))) | (go_at_call 14; exact kept_call (T2'.out _ (Kd.ok _))) | (go_at_call 15; exact kept_call (sane_any _)))))
  refine wpQuiet_nil ?_
  rintro _ ⟨k, rfl⟩
  have hk := below_step (below_step k.ok K9.out K9.out.size) HB2.out HB2.out.size
  clear ka0 ka1 ka2
  go_wp2
  go_ret
  exact ⟨rfl, hk⟩

end Go.Proofs.YtdlmdaononclgaaDoor
