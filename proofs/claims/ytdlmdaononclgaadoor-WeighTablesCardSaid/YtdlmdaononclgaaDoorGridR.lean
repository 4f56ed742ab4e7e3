import Derived.Test.YtdlmdaononclgaaDoorTblR
import Derived.Test.YtdlmdaononclgaaDoorRo
import Derived.Test.YtdlmdaononclgaaDoorRefW
import Derived.Test.YtdlmdaononclgaaDoorMC
import Derived.Deep.RegionHeld3
import Derived.Outline
/- Both Grids, and SameRows. -/
namespace Go.Proofs.YtdlmdaononclgaaDoor
open Go.RowKit
set_option linter.unusedVariables false
set_option linter.unusedSimpArgs false

def RetRR (rs : List (List Int)) (e0 : Int) (w : World) (e : Ending) (w' : World) : Prop := ∃ A c vs, e = .returned (.tuple #[.slice A rs.length c, .int .i64 e0]) ∧ rs.length ≤ c ∧ c ≤ 9223372036854775807 ∧ RR w' w'.heap.size A vs rs ∧ Below w.heap.size w w'
def gridV (xs zs : List Int) : List (List Int) := if gridB xs zs = true then gridZ xs zs else []
def gridE (xs zs : List Int) : Int := if gridB xs zs = true then 0 else 12
theorem gridB_ok {xs zs : List Int} (h : gridB xs zs = true) : OkP 9 100000 xs ∧ OkP 7 15000 zs := by
  simp only [gridB, Bool.and_eq_true] at h
  exact ⟨okP_true h.1, okP_true h.2⟩
theorem RR.nil (w : World) (B : Nat) (A : Option Addr) : RR w B A [] [] := ⟨rfl, .inl rfl, fun i hi => by simp at hi⟩

theorem Grid_any (xs zs : List Int) (A : Option Addr) (c : Nat) (A2 : Option Addr) (c2 : Nat) (hc : xs.length ≤ c) (hm : c ≤ 9223372036854775807) (hc2 : zs.length ≤ c2) (hm2 : c2 ≤ 9223372036854775807) (w : World) (h : RD w w.heap.size A (ints xs)) (h2 : RD w w.heap.size A2 (ints zs)) :
    Calls Tryd.prog 4 #[.slice A xs.length c, .slice A2 zs.length c2] w (RetRR (gridV xs zs) (gridE xs zs) w) := by
  unfold gridV gridE
  obtain ⟨r, hr⟩ : ∃ r, gridB xs zs = r := ⟨_, rfl⟩
  have C := Lib.hid (isGrid_is hr A c A2 c2 hc hm hc2 hm2 w h h2)
  have G : Hid (r = true → Calls Tryd.prog 17 #[.slice A xs.length c, .slice A2 zs.length c2] w (RetRows (gridZ xs zs) w)) := Lib.hid (fun e => grid_any xs zs A c A2 c2 (gridB_ok (hr.trans e)).1 (gridB_ok (hr.trans e)).2 hc hm hc2 hm2 w h h2)
  rw [hr]
  clear hr h h2
  cases r
  · show Calls Tryd.prog 4 #[.slice A xs.length c, .slice A2 zs.length c2] w (RetRR [] 12 w)
    go_enter Tryd.func4, Tryd.ntmps4
    go_wp2_with (go_at_call 16; (with_reducible refine C.out.mono ?_); rintro e w' ⟨rfl, rfl⟩)
    go_ret2
    exact ⟨none, 0, [], rfl, Nat.le_refl _, by omega, RR.nil _ _ _, Below.refl _ _⟩
  · show Calls Tryd.prog 4 #[.slice A xs.length c, .slice A2 zs.length c2] w (RetRR (gridZ xs zs) 0 w)
    have G' := Lib.hid (G.out rfl)
    clear G
    go_enter Tryd.func4, Tryd.ntmps4
    go_wp2_with (go_at_call 16; (with_reducible refine C.out.mono ?_); rintro e w' ⟨rfl, rfl⟩)
    refine G'.out.mono ?_
    rintro e w' ⟨G0, base, vs, rfl, hG, hrows, hb⟩
    have HR := Lib.hid hrows
    have hlen := Lib.hid (show (gridZ xs zs).length ≤ 9223372036854775807 ∨ True from .inr trivial)
    have hvl : (gridZ xs zs).length ≤ 9223372036854775807 := by
      have := C
      have := hm
      unfold gridZ
      rw [gridT_length, weightsZ_length]; omega
    clear hrows
    go_wp2
    go_ret2
    exact ⟨_, _, vs, rfl, Nat.le_refl _, hvl, HR.out.rr, hb⟩

/-- the reference's rows. -/
def rowG (ws us : List Int) (i k : Nat) : List Int := (List.range k).map fun (j : Nat) => IntKind.i64.wrap (ix ws i * ix us j)
theorem rowG_length (ws us : List Int) (i k : Nat) : (rowG ws us i k).length = k := by simp [rowG]
theorem rowG_succ (ws us : List Int) (i k : Nat) : rowG ws us i (k + 1) = rowG ws us i k ++ [IntKind.i64.wrap (ix ws i * ix us k)] := by simp [rowG, List.range_succ]
def rowsG (ws us : List Int) (m k : Nat) : List (List Int) := (List.range k).map fun (i : Nat) => rowG ws us i m
theorem rowsG_length (ws us : List Int) (m k : Nat) : (rowsG ws us m k).length = k := by simp [rowsG]
theorem rowsG_succ (ws us : List Int) (m k : Nat) : rowsG ws us m (k + 1) = rowsG ws us m k ++ [rowG ws us k m] := by simp [rowsG, List.range_succ]
theorem rowsG_grid (xs zs : List Int) : rowsG (weightsZ xs) (weightsZ zs) (weightsZ zs).length (weightsZ xs).length = gridZ xs zs := by
  unfold gridZ gridT rowsG rowG
  refine List.map_congr_left (fun i hi => ?_)
  have hi' := List.mem_range.1 hi
  have : (weightsZ xs).length * (weightsZ zs).length - i * (weightsZ zs).length ≥ (weightsZ zs).length := by
    rw [← Nat.sub_mul]
    exact Nat.le_mul_of_pos_left _ (by omega)
  rw [Nat.min_eq_left this]

theorem rowsG_below {V wo Wi w' : World} {v : Value} {vs : List Value} {o : Obj} (h1 : Below V.heap.size V wo) (h2 : Below wo.heap.size wo Wi) (ho : OwnR wo V.heap.size v vs) (hg : (Wi.alloc o).grownBy w' v.ownBlock) : Below V.heap.size V w' := by
  have h3 : Below V.heap.size V Wi := h1.trans (h2.mono h1.size)
  have h4 : Below V.heap.size V (Wi.alloc o) := h3.alloc h3.size o
  obtain ⟨_, _, _, _, _, _, hv⟩ := ho.form
  exact h4.grown hg h4.size (fun b hb => (hv b hb).1)
set_option maxHeartbeats 4000000 in
set_option maxRecDepth 10000 in
theorem refGrid_any (xs zs : List Int) (A : Option Addr) (c : Nat) (A2 : Option Addr) (c2 : Nat) (hc : xs.length ≤ c) (hm : c ≤ 9223372036854775807) (hc2 : zs.length ≤ c2) (hm2 : c2 ≤ 9223372036854775807) (w : World) (h : RD w w.heap.size A (ints xs)) (h2 : RD w w.heap.size A2 (ints zs)) :
    Calls Tryd.prog 5 #[.slice A xs.length c, .slice A2 zs.length c2] w (RetRR (gridV xs zs) (gridE xs zs) w) := by
  unfold gridV gridE
  obtain ⟨r, hr⟩ : ∃ r, gridB xs zs = r := ⟨_, rfl⟩
  have C := Lib.hid (refisTable_is hr A c A2 c2 hc hm hc2 hm2 w h h2)
  have G1 : Hid (r = true → ∀ W, Below w.heap.size w W → Calls Tryd.prog 19 #[.slice A xs.length c] W (RetInts (weightsZ xs) W)) := Lib.hid (fun e W hB => refweights_any xs A c (gridB_ok (hr.trans e)).1 hc hm W ((h.keep hB (Nat.le_refl _)).more hB.size))
  have G2 : Hid (r = true → ∀ W, Below w.heap.size w W → Calls Tryd.prog 19 #[.slice A2 zs.length c2] W (RetInts (weightsZ zs) W)) := Lib.hid (fun e W hB => refweights_any zs A2 c2 (gridB_ok (hr.trans e)).2.wide hc2 hm2 W ((h2.keep hB (Nat.le_refl _)).more hB.size))
  have HR := Lib.hid hr
  rw [hr]
  clear hr h h2
  cases r
  · show Calls Tryd.prog 5 #[.slice A xs.length c, .slice A2 zs.length c2] w (RetRR [] 12 w)
    go_enter Tryd.func5, Tryd.ntmps5
    go_wp2_with (go_at_call 18; (with_reducible refine C.out.mono ?_); rintro e w' ⟨rfl, k1, rfl⟩)
    go_ret2
    exact ⟨none, 0, [], rfl, Nat.le_refl _, by omega, RR.nil _ _ _, by repeat' (first | (with_reducible exact Below.refl _ _) | (with_reducible assumption) | (refine below_step (by assumption) ?_ ?_) | (with_reducible refine below_drewN ?_ _) | (with_reducible refine Below.drew ?_) | (with_reducible refine Below.alloc ?_ ?_ _) | (with_reducible refine Below.setCell ?_ ?_ _) | go_size)⟩
  · show Calls Tryd.prog 5 #[.slice A xs.length c, .slice A2 zs.length c2] w (RetRR (gridZ xs zs) 0 w)
    have G1' := Lib.hid (G1.out rfl)
    have G2' := Lib.hid (G2.out rfl)
    have hok := gridB_ok HR.out
    have n9 : (weightsZ xs).length ≤ 9 := by rw [weightsZ_length]; have := hok.1.many; omega
    have m7 : (weightsZ zs).length ≤ 7 := by rw [weightsZ_length]; have := hok.2.many; omega
    have HGZ := Lib.hid (rowsG_grid xs zs)
    obtain ⟨ws, hws⟩ : ∃ l, weightsZ xs = l := ⟨_, rfl⟩
    obtain ⟨us, hus⟩ : ∃ l, weightsZ zs = l := ⟨_, rfl⟩
    rw [hws] at n9 G1' HGZ
    rw [hus] at m7 G2' HGZ
    obtain ⟨n, hn⟩ : ∃ n, ws.length = n := ⟨_, rfl⟩
    obtain ⟨m, hm'⟩ : ∃ n, us.length = n := ⟨_, rfl⟩
    have HN := Lib.hid hn
    have HM := Lib.hid hm'
    rw [hn] at n9
    rw [hm'] at m7
    clear hok hws hus hn hm' G1 G2 HR
    go_enter Tryd.func5, Tryd.ntmps5
    go_wp2_with (go_at_call 18; (with_reducible refine C.out.mono ?_); rintro e w' ⟨rfl, k1, rfl⟩)
    refine (G1'.out _ (below_drewN (Below.refl _ _) _)).mono ?_
    rintro e V1 ⟨g1, rfl, hg1, ha1, hb1⟩
    have B1 := Lib.hid (below_step hb1 (below_drewN (Below.refl _ _) _) (Nat.le_refl _))
    have AR1 := Lib.hid ha1
    clear hb1 ha1 hg1
    rw [HN.out]
    go_wp2_with fail
    refine (G2'.out _ B1.out).mono ?_
    rintro e V ⟨g2, rfl, hg2, ha2, hb2⟩
    have B2 := Lib.hid (below_step hb2 B1.out B1.out.size)
    have AR1' := Lib.hid (AR1.out.of_block (hb2.block _ AR1.out.lt))
    have AR2 := Lib.hid ha2
    have z1 := AR1'.out.lt
    have z2 := ha2.lt
    clear hb2 ha2 hg2 AR1 B1 G1' G2' C
    rw [HM.out]
    go_wp2
    go_loopw [8, 9] (fun v x wr => ∃ k : Nat, k ≤ n ∧ x = .int .i64 k ∧ (∃ vs, RO wr V.heap.size v vs (rowsG ws us m k)) ∧ Below V.heap.size V wr) (fun _ x _ => n - (intOf x).toNat)
    case atStart => exact ⟨0, by omega, rfl, ⟨[], RO.nil _ _⟩, Below.refl _ _⟩
    case round =>
      obtain ⟨k, hk, rfl, ⟨vs, hro⟩, hB⟩ := hrel
      have LR := Lib.hid hB
      have RRo := Lib.hid hro
      have hzv := hB.size
      clear hB hro
      by_cases hk' : k < n
      · obtain ⟨wo, rfl⟩ : ∃ wo : World, wo = wr := ⟨_, rfl⟩
        have x1 := cell_later LR.out (AR1'.out.cell (j := k) (by rw [HN.out]; exact hk'))
        go_wp2
        go_loopw [10, 11] (fun v10 x wr => ∃ j : Nat, j ≤ m ∧ x = .int .i64 j ∧ OwnI wr wo.heap.size v10 (rowG ws us k j) ∧ Below wo.heap.size wo wr) (fun _ x _ => m - (intOf x).toNat)
        case atStart => exact ⟨0, by omega, rfl, OwnI.nil _ _, Below.refl _ _⟩
        case round =>
          obtain ⟨j, hj, rfl, hown, hbl⟩ := hrel
          have HO := Lib.hid hown
          have HL := Lib.hid hbl
          have ez := hbl.size
          have y1 := cell_later hbl x1
          clear hown hbl
          by_cases hj' : j < m
          · have y2 := cell_later HL.out (cell_later LR.out (AR2.out.cell (j := j) (by rw [HM.out]; exact hj')))
            have HS := Lib.hid (rowG_succ ws us k j)
            have hml : (rowG ws us k j).length ≤ 1000000 := by rw [rowG_length]; omega
            have f1 : (k : Int) < (n : Int) := by omega
            have f2 : (j : Int) < (m : Int) := by omega
            have f3 : (0 : Int) ≤ (k : Int) := by omega
            have f4 : (0 : Int) ≤ (j : Int) := by omega
            go_wp2
            go_region_held3 (fun w' => w'.cell? ⟨g1, k, none⟩ = some (.int .i64 (ix ws k)) ∧ w'.cell? ⟨g2, j, none⟩ = some (.int .i64 (ix us j))) (first | exact ⟨c5', c6'⟩ | exact ⟨cell_later (by repeat' (first | (with_reducible exact Below.refl _ _) | (with_reducible assumption) | (refine below_step (by assumption) ?_ ?_) | (with_reducible refine below_drewN ?_ _) | (with_reducible refine Below.drew ?_) | (with_reducible refine Below.alloc ?_ ?_ _) | (with_reducible refine Below.setCell ?_ ?_ _) | go_size)) y1, cell_later (by repeat' (first | (with_reducible exact Below.refl _ _) | (with_reducible assumption) | (refine below_step (by assumption) ?_ ?_) | (with_reducible refine below_drewN ?_ _) | (with_reducible refine Below.drew ?_) | (with_reducible refine Below.alloc ?_ ?_ _) | (with_reducible refine Below.setCell ?_ ?_ _) | go_size)) y2⟩) ((refine op_app2 rfl (.tmp 32) (.tmp 42) rfl wo.heap.size _ _ rfl (HO.out.kept (by repeat' (first | (with_reducible exact Below.refl _ _) | (with_reducible assumption) | (refine below_step (by assumption) ?_ ?_) | (with_reducible refine below_drewN ?_ _) | (with_reducible refine Below.drew ?_) | (with_reducible refine Below.alloc ?_ ?_ _) | (with_reducible refine Below.setCell ?_ ?_ _) | go_size)) (Nat.le_refl _)) wr.heap.size 1 (IntKind.i64.wrap (ix ws k * ix us j)) rfl (by simp [go_sem]) hml (by simp; omega) ?_; intro v3 W3 hown3 hg3 hb3; have LB3 : Below wo.heap.size wo W3 := (((HL.out.alloc HL.out.size _).drew).grown hg3 (by simp only [World.size_alloc, World.size_drew]; omega) (fun i e => (HO.out.at_block e).1)); have c5' := cell_later LB3 x1; have c6' := cell_later LB3 (cell_later LR.out (AR2.out.cell (j := j) (by rw [HM.out]; exact hj')))))
            have HB3 := Lib.hid LB3
            have HW3 := Lib.hid hown3
            clear LB3 hown3 hg3 hb3 c5' c6' y1 y2
            go_wp2
            go_roundw
            case rel => exact ⟨j + 1, by omega, by go_num, by rw [HS.out]; exact HW3.out, HB3.out⟩
            case measure => simp [intOf]; omega
          · obtain rfl : m = j := by omega
            have own2 := HO.out
            obtain ⟨A9, c9, rfl, hc9, hm9⟩ : ∃ A9 c9, _ = Value.slice A9 m c9 ∧ m ≤ c9 ∧ c9 ≤ 9223372036854775807 := by
              obtain ⟨A9, c9, e, h1, h2, _⟩ := own2.form
              rw [rowG_length] at e h1
              exact ⟨A9, c9, e, h1, h2⟩
            clear own2
            have hvl : vs.length ≤ 1000000 := by rw [RRo.out.len, rowsG_length]; omega
            go_wp2_with (at_builtin; refine wpList_appR rfl _ _ rfl V.heap.size _ _ rfl (RRo.out.own.kept (below_step (Below.alloc (Below.refl _ _) (Nat.le_refl _) _) HL.out HL.out.size) (Nat.le_refl _)) wr.heap.size 1 _ _ _ rfl (cell_new1 _ _ _) hvl (by simp; omega) ?_; intro v' w' hown' hgrow; have HG := Lib.hid hgrow; have HW := Lib.hid hown'; clear hgrow hown')
            go_roundw
            case rel => exact ⟨k + 1, by omega, by go_num, ⟨_, by rw [rowsG_succ]; exact (RRo.out.kept HL.out (Nat.le_refl _)).push (HO.out.less hzv) HG.out HW.out⟩, rowsG_below LR.out HL.out RRo.out.own HG.out⟩
            case measure => simp [intOf]; omega
      · obtain rfl : n = k := by omega
        have hrs : rowsG ws us m n = gridZ xs zs := by have := HGZ.out; rwa [HM.out, HN.out] at this
        obtain ⟨A9, c9, rfl, h91, h92, hrr⟩ := RRo.out.rr (rowsG_length ws us m n)
        rw [hrs] at hrr
        have HRR := Lib.hid hrr
        have HGL := Lib.hid (show (gridZ xs zs).length = n by rw [← hrs, rowsG_length])
        clear hrr hrs
        go_wp2
        go_ret2
        exact ⟨A9, c9, vs, by first | (rw [HGL.out]; done) | (rw [HGL.out]; rfl), by rw [HGL.out]; exact h91, h92, HRR.out, below_step LR.out B2.out B2.out.size⟩

end Go.Proofs.YtdlmdaononclgaaDoor
