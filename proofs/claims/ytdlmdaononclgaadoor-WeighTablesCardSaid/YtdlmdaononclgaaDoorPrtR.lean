import Derived.Test.YtdlmdaononclgaaDoorTxtR
import Derived.Test.YtdlmdaononclgaaDoorVolR
import Derived.Test.YtdlmdaononclgaaDoorOpApp

/- the reference's Print. -/
namespace Go.Proofs.YtdlmdaononclgaaDoor
open Go.RowKit
set_option linter.unusedVariables false
set_option linter.unusedSimpArgs false

def watersW : List UInt8 := [119, 97, 116, 101, 114, 115]
def stationW : List UInt8 := [115, 116, 97, 116, 105, 111, 110]
/-- the lines of the first k stations. -/
def linesT (xs : List Int) (rs : List (List Int)) (k : Nat) : List UInt8 := (List.range k).flatMap fun i => rowT stationW (ix xs i :: rx rs i)
def printT (xs zs : List Int) (rs : List (List Int)) : List UInt8 := rowT watersW zs ++ linesT xs rs rs.length
def printV (xs zs : List Int) (rs : List (List Int)) : List UInt8 := if tableB xs zs rs = true then printT xs zs rs else []
theorem linesT_succ (xs : List Int) (rs : List (List Int)) (k : Nat) : linesT xs rs (k + 1) = linesT xs rs k ++ rowT stationW (ix xs k :: rx rs k) := by
  simp [linesT, List.range_succ]

theorem rowT_le (wd : List UInt8) (hw : wd.length ≤ 100) (l : List Int) (h : In64 l) : (rowT wd l).length ≤ 101 + 22 * l.length := by
  have := take_num_len l h l.length (Nat.le_refl _)
  rw [List.take_length] at this
  simp only [rowT, List.length_append, List.length_cons, List.length_nil]
  omega
theorem okP_le {many most : Int} {xs : List Int} (h : OkP many most xs) (hm : most ≤ 100000) : In64 xs := by
  have hlo := h.lo
  have hhi := h.hi'
  intro k hk
  have := hlo k hk
  have := hhi k hk
  omega
/-- all rows of a valid table are printable. -/
theorem table_in {xs zs : List Int} {rs : List (List Int)} (h : tableB xs zs rs = true) : In64 zs ∧ ∀ i, i < rs.length → In64 (ix xs i :: rx rs i) := by
  obtain ⟨ok1, ok2, hrl, hrw, hH⟩ := table_ok h
  refine ⟨okP_le ok2 (by omega), fun i hi k hk => ?_⟩
  cases k with
  | zero => exact okP_le ok1 (by omega) i (by omega)
  | succ k => have := hH i k; show _ ≤ ix (rx rs i) k ∧ ix (rx rs i) k ≤ _; omega
theorem linesT_le {xs : List Int} {rs : List (List Int)} {m : Nat} (hm : m ≤ 7) (hr : ∀ i, i < rs.length → (rx rs i).length = m) (h : ∀ i, i < rs.length → In64 (ix xs i :: rx rs i)) (k : Nat) (hk : k ≤ rs.length) : (linesT xs rs k).length ≤ 300 * k := by
  induction k with
  | zero => simp [linesT]
  | succ k ih =>
    have := ih (by omega)
    have h2 := rowT_le stationW (by decide) _ (h k (by omega))
    rw [List.length_cons, hr k (by omega)] at h2
    rw [linesT_succ, List.length_append]
    omega

set_option maxHeartbeats 4000000 in
set_option maxRecDepth 10000 in
theorem refPrint_yes {xs zs : List Int} {rs : List (List Int)} (hr : tableB xs zs rs = true) (A1 : Option Addr) (c1 : Nat) (A2 : Option Addr) (c2 : Nat) (A3 : Option Addr) (c3 : Nat) (vs : List Value) (w : World) (h : TD w w.heap.size xs zs rs A1 c1 A2 c2 A3 c3 vs) :
    Calls Tryd.prog 11 #[.agg #[.slice A1 xs.length c1, .slice A2 zs.length c2, .slice A3 rs.length c3]] w fun e w' => e = .returned (.tuple #[.string ⟨(printT xs zs rs).toArray⟩, .int .i64 0]) ∧ Below w.heap.size w w' := by
  have C : Hid (∀ W, Below w.heap.size w W → Calls Tryd.prog 14 #[.agg #[.slice A1 xs.length c1, .slice A2 zs.length c2, .slice A3 rs.length c3]] W fun e w' => e = .returned (.int .i64 (tabE xs zs rs)) ∧ Below W.heap.size W w') := Lib.hid (fun W hB => refCheckTable_any A1 c1 A2 c2 A3 c3 vs W ((h.keep hB (Nat.le_refl _)).more hB.size))
  have e2 : tabE xs zs rs = 0 := by unfold tabE; rw [hr]; rfl
  rw [e2] at C
  obtain ⟨ok1, ok2, hrl, hrw, hH⟩ := table_ok hr
  obtain ⟨iz, ir⟩ := table_in hr
  obtain ⟨n, hn⟩ : ∃ n, xs.length = n := ⟨_, rfl⟩
  obtain ⟨m, hm⟩ : ∃ n, zs.length = n := ⟨_, rfl⟩
  have n2 : 2 ≤ n := by have := ok1.two; omega
  have n9 : n ≤ 9 := by have := ok1.many; omega
  have m2 : 2 ≤ m := by have := ok2.two; omega
  have m7 : m ≤ 7 := by have := ok2.many; omega
  have hrn : rs.length = n := hrl.trans hn
  have HT := Lib.hid h
  have R0 : Hid (∀ W, Below w.heap.size w W → Calls Tryd.prog 29 #[.string ⟨watersW.toArray⟩, .slice A2 m c2] W fun e w' => e = .returned (.string ⟨(rowT watersW zs).toArray⟩) ∧ Below W.heap.size W w') := Lib.hid (fun W hB => refrow_is watersW (by decide) zs iz hm (by omega) A2 c2 W ((h.rd2.keep hB (Nat.le_refl _)).more hB.size))
  have R1 : Hid (∀ k, k < n → ∀ A d W, RD W W.heap.size A (ints (ix xs k :: rx rs k)) → Calls Tryd.prog 29 #[.string ⟨#[115, 116, 97, 116, 105, 111, 110]⟩, .slice A (m + 1) d] W fun e w' => e = .returned (.string ⟨(rowT stationW (ix xs k :: rx rs k)).toArray⟩) ∧ Below W.heap.size W w') := Lib.hid (fun k hk A d W hA => refrow_is stationW (by decide) _ (ir k (by omega)) (by rw [List.length_cons, hrw k (by omega), hm]) (by omega) A d W hA)
  have hwl := rowT_le watersW (by decide) zs iz
  have hll := linesT_le m7 (fun i hi => (hrw i hi).trans hm) ir
  have hrl2 : ∀ k, k < n → (rowT stationW (ix xs k :: rx rs k)).length ≤ 300 := fun k hk => by
    have := rowT_le stationW (by decide) _ (ir k (by omega))
    rw [List.length_cons, hrw k (by omega)] at this
    omega
  have HRW : Hid (∀ i, i < n → (rx rs i).length = m) := Lib.hid (fun i hi => by rw [hrw i (by omega), hm])
  rw [hm] at hwl
  rw [hrn] at hll
  have hpt : printT xs zs rs = rowT watersW zs ++ linesT xs rs n := by unfold printT; rw [hrn]
  rw [hpt]
  obtain ⟨wt, hwt⟩ : ∃ l, rowT watersW zs = l := ⟨_, rfl⟩
  rw [hwt] at R0 hwl ⊢
  have HLL := Lib.hid hll
  have HL2 := Lib.hid hrl2
  have HN := Lib.hid hn
  have HRN := Lib.hid hrn
  rw [hn, hm, hrn] at C ⊢
  clear ok1 ok2 hrl hrw hH hn hm hrn e2 h hr iz ir hpt hwt hll hrl2
  go_enter Tryd.func11, Tryd.ntmps11
  go_wp2_with (go_at_call 14; (with_reducible refine (C.out _ (Below.alloc (Below.refl _ _) (Nat.le_refl _) _)).mono ?_); rintro e w1 ⟨rfl, hb1⟩; obtain ⟨d0, d1, d2⟩ := cells_box3 hb1; have hB1 := Lib.hid (below_step hb1 (Below.alloc (Below.refl _ _) (Nat.le_refl _) _) (by simp)); have hz1 := hb1.size; clear hb1)
  refine (R0.out _ hB1.out).mono ?_
  rintro e V ⟨rfl, hb2⟩
  have e0 := cell_later hb2 d0
  have e2 := cell_later hb2 d2
  have HB := Lib.hid (below_step hb2 hB1.out hB1.out.size)
  clear hb2 d0 d1 d2 C R0 hz1 hB1
  go_wp2
  go_loopw [4, 5] (fun s x wr => ∃ k : Nat, k ≤ n ∧ x = .int .i64 k ∧ s = .string ⟨(wt ++ linesT xs rs k).toArray⟩ ∧ Below V.heap.size V wr) (fun _ x _ => n - (intOf x).toNat)
  case atStart => exact ⟨0, by omega, rfl, by simp [linesT], Below.refl _ _⟩
  case round =>
    obtain ⟨k, hk, rfl, rfl, hBr⟩ := hrel
    have HBR := Lib.hid hBr
    have f0 := cell_later hBr e0
    have f2 := cell_later hBr e2
    clear hBr
    by_cases hk' : k < n
    · obtain ⟨b1, o1, rfl, hb1, hc1'⟩ := HT.out.rd1.ints (by have := HN.out; omega)
      obtain ⟨b3, o3, rfl, hb3, hc3'⟩ := HT.out.rd3.cells (by have := HRN.out; omega)
      obtain ⟨Ai, ci, hv, hci, hmi, hri⟩ := HT.out.rd3.each k (by have := HRN.out; omega)
      have hBt : Below w.heap.size w wr := below_step HBR.out HB.out HB.out.size
      have x1 := cell_later hBt (hc1' k (by have := HN.out; omega))
      have x3 := cell_later hBt (hc3' k (by have := HRN.out; omega))
      rw [hv, HRW.out k hk'] at x3
      obtain ⟨bi, oi, rfl, hbi, hcl⟩ := hri.ints (by rw [HRW.out k hk']; omega)
      rw [HRW.out k hk'] at hcl
      have HC1 : Hid (∀ W, Below wr.heap.size wr W → ∀ j, j < m → W.cell? ⟨bi, oi + j, none⟩ = some (.int .i64 (ix (rx rs k) j))) := Lib.hid (fun W hW j hj => cell_later hW (cell_later hBt (hcl j hj)))
      have R := Lib.hid (R1.out k hk')
      have L := HL2.out k hk'
      have hst := linesT_succ xs rs k
      have hll := HLL.out k (by omega)
      have HM := Lib.hid (HRW.out k hk')
      obtain ⟨y, hy⟩ : ∃ y, ix xs k = y := ⟨_, rfl⟩
      obtain ⟨rk, hrk⟩ : ∃ y, rx rs k = y := ⟨_, rfl⟩
      rw [hy, hrk] at R L hst
      rw [hrk] at HC1 HM
      rw [hy] at x1
      clear hc1' hc3' hv hri hcl hci hmi hy hrk
      obtain ⟨rw', hrw'⟩ : ∃ l, rowT stationW (y :: rk) = l := ⟨_, rfl⟩
      rw [hrw'] at R L hst
      obtain ⟨s, hs⟩ : ∃ l, wt ++ linesT xs rs k = l := ⟨_, rfl⟩
      have hsl : s.length ≤ 4000 := by rw [← hs, List.length_append]; omega
      rw [hs]
      have hs2 : wt ++ linesT xs rs (k + 1) = s ++ rw' := by rw [hst, ← List.append_assoc, hs]
      have HS := Lib.hid hs2
      clear hs hst hs2 hll hrw'
      have k3 : ¬ (9223372036854775807 < s.length + rw'.length) := by omega
      have k4 : s.length + rw'.length ≤ 9223372036854775807 := by omega
      have HLN : Hid ((([y] : List Int) ++ rk).length = m + 1) := Lib.hid (by rw [List.length_append, HM.out]; simp; omega)
      go_upto_region 7 with fail
      go_region_held3 (fun w' => w'.cell? ⟨w.heap.size, 0, none⟩ = some (.slice (some ⟨b1, o1, none⟩) n c1) ∧ w'.cell? ⟨w.heap.size, 2, none⟩ = some (.slice (some ⟨b3, o3, none⟩) n c3) ∧ w'.cell? ⟨b1, o1 + k, none⟩ = some (.int .i64 y) ∧ w'.cell? ⟨b3, o3 + k, none⟩ = some (.slice (some ⟨bi, oi, none⟩) m ci)) (first | exact ⟨g0'', g1'', g2'', g3''⟩ | exact ⟨g0', g1', g2', g3'⟩ | exact ⟨cell_later (by repeat' (first | (with_reducible exact Below.refl _ _) | (with_reducible assumption) | (refine below_step (by assumption) ?_ ?_) | (with_reducible refine below_drewN ?_ _) | (with_reducible refine Below.drew ?_) | (with_reducible refine Below.alloc ?_ ?_ _) | (with_reducible refine Below.setCell ?_ ?_ _) | go_size)) f0, cell_later (by repeat' (first | (with_reducible exact Below.refl _ _) | (with_reducible assumption) | (refine below_step (by assumption) ?_ ?_) | (with_reducible refine below_drewN ?_ _) | (with_reducible refine Below.drew ?_) | (with_reducible refine Below.alloc ?_ ?_ _) | (with_reducible refine Below.setCell ?_ ?_ _) | go_size)) f2, cell_later (by repeat' (first | (with_reducible exact Below.refl _ _) | (with_reducible assumption) | (refine below_step (by assumption) ?_ ?_) | (with_reducible refine below_drewN ?_ _) | (with_reducible refine Below.drew ?_) | (with_reducible refine Below.alloc ?_ ?_ _) | (with_reducible refine Below.setCell ?_ ?_ _) | go_size)) x1, cell_later (by repeat' (first | (with_reducible exact Below.refl _ _) | (with_reducible assumption) | (refine below_step (by assumption) ?_ ?_) | (with_reducible refine below_drewN ?_ _) | (with_reducible refine Below.drew ?_) | (with_reducible refine Below.alloc ?_ ?_ _) | (with_reducible refine Below.setCell ?_ ?_ _) | go_size)) x3⟩) (first | (refine op_app1 rfl (.tmp 25) (.tmp 30) rfl wr.heap.size (.slice (some ⟨wr.heap.size, 0, none⟩) 1 1) [y] rfl ((ownI_one wr wr.heap.size (Nat.le_refl _) y).kept (by repeat' (first | (with_reducible exact Below.refl _ _) | (with_reducible assumption) | (refine below_step (by assumption) ?_ ?_) | (with_reducible refine below_drewN ?_ _) | (with_reducible refine Below.drew ?_) | (with_reducible refine Below.alloc ?_ ?_ _) | (with_reducible refine Below.setCell ?_ ?_ _) | go_size)) (Nat.le_refl _)) bi oi m ci (m + 1) rk HM.out HLN.out rfl (HC1.out _ (by repeat' (first | (with_reducible exact Below.refl _ _) | (with_reducible assumption) | (refine below_step (by assumption) ?_ ?_) | (with_reducible refine below_drewN ?_ _) | (with_reducible refine Below.drew ?_) | (with_reducible refine Below.alloc ?_ ?_ _) | (with_reducible refine Below.setCell ?_ ?_ _) | go_size))) (by omega) (by simp) ?_; intro A4 d4 W4 hd4 hd4' ho4 hg4; have LB4 : Below wr.heap.size wr W4 := ((((Below.refl _ wr).alloc (Nat.le_refl _) _).drew).grown hg4 (by simp only [World.size_alloc, World.size_drew]; omega) (fun k e => by simp only [Value.ownBlock, Option.some.injEq] at e; omega)); have g0' := cell_later LB4 f0; have g1' := cell_later LB4 f2; have g2' := cell_later LB4 x1; have g3' := cell_later LB4 x3) | (go_at_call 29; (with_reducible refine (R.out _ _ _ ho4.rd1).mono ?_); rintro e w5 ⟨rfl, hb5⟩; have LB5 : Below wr.heap.size wr w5 := below_step hb5 LB4 LB4.size; have g0'' := cell_later LB5 f0; have g1'' := cell_later LB5 f2; have g2'' := cell_later LB5 x1; have g3'' := cell_later LB5 x3))
      go_wp2
      go_roundw
      case rel => exact ⟨k + 1, by omega, by go_num, by rw [HS.out, ← ByteArray.mk_append_mk], below_step LB5 HBR.out HBR.out.size⟩
      case measure => simp [intOf]; omega
    · obtain rfl : k = n := by omega
      go_wp2
      go_ret2
      exact ⟨rfl, below_step HBR.out HB.out HB.out.size⟩

theorem refPrint_any {xs zs : List Int} {rs : List (List Int)} (A1 : Option Addr) (c1 : Nat) (A2 : Option Addr) (c2 : Nat) (A3 : Option Addr) (c3 : Nat) (vs : List Value) (w : World) (h : TD w w.heap.size xs zs rs A1 c1 A2 c2 A3 c3 vs) :
    Calls Tryd.prog 11 #[.agg #[.slice A1 xs.length c1, .slice A2 zs.length c2, .slice A3 rs.length c3]] w fun e w' => e = .returned (.tuple #[.string ⟨(printV xs zs rs).toArray⟩, .int .i64 (tabE xs zs rs)]) ∧ Below w.heap.size w w' := by
  cases hr : tableB xs zs rs with
  | true =>
    have e1 : printV xs zs rs = printT xs zs rs := by unfold printV; rw [hr]; rfl
    have e2 : tabE xs zs rs = 0 := by unfold tabE; rw [hr]; rfl
    rw [e1, e2]
    exact refPrint_yes hr A1 c1 A2 c2 A3 c3 vs w h
  | false =>
    have C : Hid (∀ W, Below w.heap.size w W → Calls Tryd.prog 14 #[.agg #[.slice A1 xs.length c1, .slice A2 zs.length c2, .slice A3 rs.length c3]] W fun e w' => e = .returned (.int .i64 (tabE xs zs rs)) ∧ Below W.heap.size W w') := Lib.hid (fun W hB => refCheckTable_any A1 c1 A2 c2 A3 c3 vs W ((h.keep hB (Nat.le_refl _)).more hB.size))
    have e1 : printV xs zs rs = [] := by unfold printV; rw [hr]; rfl
    have e2 : tabE xs zs rs = 13 := by unfold tabE; rw [hr]; rfl
    rw [e1, e2]
    rw [e2] at C
    clear e1 e2 h hr
    go_enter Tryd.func11, Tryd.ntmps11
    go_wp2_with (go_at_call 14; (with_reducible refine (C.out _ (Below.alloc (Below.refl _ _) (Nat.le_refl _) _)).mono ?_); rintro e w1 ⟨rfl, hb1⟩)
    go_ret2
    exact ⟨rfl, below_step hb1 (Below.alloc (Below.refl _ _) (Nat.le_refl _) _) (by simp)⟩

end Go.Proofs.YtdlmdaononclgaaDoor
