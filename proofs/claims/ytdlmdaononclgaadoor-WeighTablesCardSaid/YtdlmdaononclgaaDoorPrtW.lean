import Derived.Test.YtdlmdaononclgaaDoorPrtR
import Derived.Test.YtdlmdaononclgaaDoorAppN
import Derived.Test.YtdlmdaononclgaaDoorShelf
import Derived.Test.YtdlmdaononclgaaDoorLays
import Derived.Lib.SmallJoins
import Derived.Outline
/- the program's Print: the closure that writes a row. -/
namespace Go.Proofs.YtdlmdaononclgaaDoor
open Go.RowKit
set_option linter.unusedVariables false
set_option linter.unusedSimpArgs false

/-- the builder at b (its own memory from B on), bytes bs. -/
def BL (B b : Nat) (bs : List UInt8) (w : World) : Prop := Lib.IsBuilderF 48 5 B b (Lib.byteCells bs) w
/-- what a call that writes to the builder at b leaves alone. -/
structure OK2 (B b : Nat) (w w' : World) : Prop where
  below : Below B w w'
  others : Lib.OthersKept 5 (some b) w w'
theorem OK2.refl (B b : Nat) (w : World) : OK2 B b w w := ⟨Below.refl _ _, Lib.OthersKept.refl _ _ _⟩
theorem OK2.trans {B b : Nat} {w v u : World} (h : OK2 B b w v) (k : OK2 B b v u) : OK2 B b w u := ⟨h.below.trans k.below, h.others.trans k.others⟩
theorem others_of_below {w w' : World} {b : Option Nat} (h : Below w.heap.size w w') : Lib.OthersKept 5 b w w' := fun k o hk _ _ => by
  have hl : k < w.heap.size := (Array.getElem?_eq_some_iff.1 hk).1
  rw [h.block k hl]; exact hk
theorem OK2.of_below {B b : Nat} {w w' : World} (h : Below w.heap.size w w') (hB : B ≤ w.heap.size) : OK2 B b w w' := ⟨h.mono hB, others_of_below h⟩
theorem BL.keep {B b : Nat} {bs : List UInt8} {w w' : World} (h : BL B b bs w) (hb : Below w.heap.size w w') : BL B b bs w' := by
  have step : ∀ p, Lib.BuilderAtF 48 5 B b p (Lib.byteCells bs) w → Lib.BuilderAtF 48 5 B b p (Lib.byteCells bs) w' := by
    rintro p ⟨hB, v, h1, h2, h3⟩
    have hl : b < w.heap.size := (Array.getElem?_eq_some_iff.1 h1).1
    refine ⟨hB, v, by rw [hb.block b hl]; exact h1, h2.kept (row := none) ⟨hb.os, hb.tape, hb.output, hb.size, fun k hk _ => hb.block k hk⟩ ?_, h3⟩
    cases hv : v.ownBlock with
    | none => exact .inl rfl
    | some x => exact .inr (by simp)
  exact h.elim (fun x => .inl (step _ x)) (fun x => .inr (step _ x))
theorem strCells_eq (l : List UInt8) : Lib.strCells ⟨l.toArray⟩ = Lib.byteCells l := rfl
theorem byteCells_append (a b : List UInt8) : Lib.byteCells (a ++ b) = Lib.byteCells a ++ Lib.byteCells b := by simp [Lib.byteCells]
theorem byteCells_length (a : List UInt8) : (Lib.byteCells a).length = a.length := by simp [Lib.byteCells]

theorem WS_is (B b : Nat) (bs s : List UInt8) (hl : bs.length ≤ 1000000) (hs : s.length ≤ 1000000) (w : World) (h : BL B b bs w) (hBw : B ≤ w.heap.size) :
    Calls Tryd.prog 25 #[.pointer (some ⟨b, 0, none⟩), .string ⟨s.toArray⟩] w fun e w' => e = .returned (.tuple #[.int .i64 s.length, .nilIface]) ∧ BL B b (bs ++ s) w' ∧ OK2 B b w w' :=
  (Builder_WriteString_k B b (Lib.byteCells bs) ⟨s.toArray⟩ w h (by rw [byteCells_length]; simp [ByteArray.size]; omega) hBw).mono fun e w' ⟨he, h1, h2, h3⟩ => by
    refine ⟨by rw [he]; rfl, ?_, h2, h3⟩
    unfold BL
    rw [byteCells_append, ← strCells_eq s]
    exact .inr h1
theorem WB_is (B b : Nat) (bs : List UInt8) (c : UInt8) (n : Int) (hc : n = c.toNat) (hl : bs.length ≤ 1000000) (w : World) (h : BL B b bs w) (hBw : B ≤ w.heap.size) :
    Calls Tryd.prog 27 #[.pointer (some ⟨b, 0, none⟩), .int .u8 n] w fun e w' => e = .returned .nilIface ∧ BL B b (bs ++ [c]) w' ∧ OK2 B b w w' :=
  (Builder_WriteByte_k B b (Lib.byteCells bs) n w h (by rw [byteCells_length]; omega) hBw).mono fun e w' ⟨he, h1, h2, h3⟩ => by
    refine ⟨he, ?_, h2, h3⟩
    unfold BL
    rw [byteCells_append]
    subst hc
    exact .inr h1
theorem itoa_is (n : Int) (h0 : -9223372036854775808 ≤ n) (h1 : n ≤ 9223372036854775807) (w : World) (ht : Lib.TabIs Tryd.prog w "internal/strconv.uint64pow10" .u64 Lib.pow10Tab) :
    Calls Tryd.prog 26 #[.int .i64 n] w fun e w' => e = .returned (.string ⟨(Lib.itoa n).toArray⟩) ∧ Below w.heap.size w w' :=
  (Tryd.strconv_Itoa n h0 h1 w ht).mono fun e w' ⟨he, k, os, hw⟩ => ⟨he, by
    subst hw
    refine (below_drewN (Below.refl _ w) k).trans ⟨rfl, rfl, rfl, by simp [Sort.grow], fun j hj => ?_⟩
    have hj' : j < w.heap.size := by simpa using hj
    show (w.heap ++ os)[j]? = w.heap[j]?
    exact Array.getElem?_append_left hj'⟩

/-- the table of powers, by which strconv writes. -/
def Pow (w : World) : Prop := Lib.TabIs Tryd.prog w "internal/strconv.uint64pow10" .u64 Lib.pow10Tab
theorem Pow.keep {w w' : World} (h : Pow w) (hb : Below w.heap.size w w') : Pow w' := by
  cases hg : Tryd.prog.globalNamed "internal/strconv.uint64pow10" with
  | none => unfold Pow Lib.TabIs World.var? at h; rw [hg] at h; cases h
  | some g => exact Go.Joins.tab_stays hg h hb (Nat.le_refl _)

set_option maxHeartbeats 2000000 in
set_option maxRecDepth 10000 in
theorem Print1_is (B b : Nat) (bs word : List UInt8) (hbs : bs.length ≤ 100000) (hwd : word.length ≤ 100) (l : List Int) (h64 : In64 l) {n : Nat} (hn : l.length = n) (hn1 : n ≤ 1000) (g off c : Nat) (w : World)
    (hc : ∀ w', OK2 B b w w' → ∀ j, j < n → w'.cell? ⟨g, off + j, none⟩ = some (.int .i64 (ix l j))) (hp : ∀ w', OK2 B b w w' → Pow w')
    (h : BL B b bs w) (hBw : B ≤ w.heap.size) :
    Calls Tryd.prog 24 #[.string ⟨word.toArray⟩, .slice (some ⟨g, off, none⟩) n c, .pointer (some ⟨b, 0, none⟩)] w fun e w' => e = .returned (.tuple #[]) ∧ BL B b (bs ++ rowT word l) w' ∧ OK2 B b w w' := by
  have HC := Lib.hid hc
  have HP := Lib.hid hp
  have H64 := Lib.hid h64
  have HN := Lib.hid hn
  have HB := Lib.hid h
  clear hc hp h64 hn h
  go_enter Tryd.func24, Tryd.ntmps24
  go_wp2_with fail
  refine (WS_is B b bs word (by omega) (by omega) _ HB.out hBw).mono ?_
  rintro e w1 ⟨rfl, h1, k1⟩
  have H1 := Lib.hid h1
  have K1 := Lib.hid k1
  clear h1 k1
  go_wp2
  go_loopw [11] (fun x wr => ∃ k : Nat, k ≤ n ∧ x = .int .i64 k ∧ BL B b (bs ++ word ++ (l.take k).flatMap numT) wr ∧ OK2 B b w wr) (fun x _ => n - (intOf x).toNat)
  case atStart => exact ⟨0, by omega, rfl, by simpa using H1.out, K1.out⟩
  case round =>
    obtain ⟨k, hk, rfl, hb, hK⟩ := hrel
    have HBr := Lib.hid hb
    have HK := Lib.hid hK
    clear hb hK
    have hlen := take_num_len l H64.out k (by have := HN.out; omega)
    have hsz : B ≤ wr.heap.size := Nat.le_trans hBw HK.out.below.size
    by_cases hk' : k < n
    · have y0 := HC.out wr HK.out k hk'
      obtain ⟨b0, b1⟩ := H64.out k (by have := HN.out; omega)
      have hnum := numT_len _ b0 b1
      have hst := take_num l k (by have := HN.out; omega)
      obtain ⟨x, hx⟩ : ∃ x, ix l k = x := ⟨_, rfl⟩
      rw [hx] at y0 b0 b1 hnum hst
      have T : Hid (Calls Tryd.prog 26 #[.int .i64 x] wr fun e w' => e = .returned (.string ⟨(Lib.itoa x).toArray⟩) ∧ Below wr.heap.size wr w') := Lib.hid (itoa_is x b0 b1 wr (HP.out wr HK.out))
      obtain ⟨d, hd⟩ : ∃ d, Lib.itoa x = d := ⟨_, rfl⟩
      have hnt : numT x = 32 :: d := by unfold numT; rw [hd]
      rw [hnt] at hst hnum
      rw [hd] at T
      simp only [List.length_cons] at hnum
      obtain ⟨s, hs⟩ : ∃ s, bs ++ word ++ (l.take k).flatMap numT = s := ⟨_, rfl⟩
      have hsl : s.length ≤ 200000 := by rw [← hs, List.length_append, List.length_append]; omega
      rw [hs] at HBr
      have k2 := fun W => str_add W [32] d 9 (by simp) (by omega)
      have HS : Hid (bs ++ word ++ (l.take (k + 1)).flatMap numT = s ++ (32 :: d)) := Lib.hid (by rw [hst, ← List.append_assoc, hs])
      clear hx hs hst hd hnt hlen b0 b1
      go_wp2_with (go_at_call 26; (with_reducible refine T.out.mono ?_); rintro e w2 ⟨rfl, hb2⟩; have HB2 := Lib.hid hb2; clear hb2)
      refine (WS_is B b s ([32] ++ d) (by omega) (by simp; omega) _ (HBr.out.keep HB2.out) (Nat.le_trans hsz HB2.out.size)).mono ?_
      rintro e w3 ⟨rfl, h3, k3⟩
      have H3 := Lib.hid h3
      have K3 := Lib.hid k3
      clear h3 k3
      go_wp2
      go_roundw
      case rel => exact ⟨k + 1, by omega, by go_num, by rw [HS.out]; exact H3.out, (HK.out.trans (OK2.of_below HB2.out hsz)).trans K3.out⟩
      case measure => simp [intOf]; omega
    · obtain rfl : k = n := by omega
      have e : (l.take k) = l := by rw [← HN.out, List.take_length]
      rw [e] at hlen HBr
      have e2 : bs ++ rowT word l = (bs ++ word ++ l.flatMap numT) ++ [10] := by unfold rowT; simp
      have hsl : (bs ++ word ++ l.flatMap numT).length ≤ 200000 := by rw [List.length_append, List.length_append]; omega
      obtain ⟨s, hs⟩ : ∃ s, bs ++ word ++ l.flatMap numT = s := ⟨_, rfl⟩
      rw [hs] at HBr e2 hsl
      have HE := Lib.hid e2
      clear hs e e2 hlen
      go_wp2_with fail
      refine (WB_is B b s 10 10 (by decide) (by omega) _ HBr.out hsz).mono ?_
      rintro e w3 ⟨rfl, h3, k3⟩
      have H3 := Lib.hid h3
      have K3 := Lib.hid k3
      clear h3 k3
      go_wp2
      exact bodyPost_end (by simp [results, Tryd.results24, go_sem]) rfl ⟨rfl, by rw [HE.out]; exact H3.out, HK.out.trans K3.out⟩

theorem BL.start (w : World) (B : Nat) (hB : B ≤ w.heap.size) : BL B w.heap.size [] (w.alloc (.cells #[.pointer none, .slice none 0 0] 48)) :=
  .inl ⟨hB, .slice none 0 0, heap_alloc_new w _, ⟨rfl, .inl ⟨rfl, rfl⟩⟩, by simp [Value.ownBlock]⟩
theorem BS_is (B b : Nat) (bs : List UInt8) (w : World) (h : BL B b bs w) (hBw : B ≤ w.heap.size) :
    Calls Tryd.prog 28 #[.pointer (some ⟨b, 0, none⟩)] w fun e w' => e = .returned (.string ⟨bs.toArray⟩) ∧ Below B w w' :=
  (Builder_String_any_k B b bs w h hBw).mono fun e w' ⟨he, _, h2, _⟩ => ⟨he, h2⟩

theorem box_stays {w w1 w2 : World} {a b c : Value} {B : Nat} {ob : Obj} (hb : Below (w.alloc (.cells #[a, b, c] 25)).heap.size (w.alloc (.cells #[a, b, c] 25)) w1) (h : OK2 B w1.heap.size (w1.alloc ob) w2) :
    w2.cell? ⟨w.heap.size, 0, none⟩ = some a ∧ w2.cell? ⟨w.heap.size, 1, none⟩ = some b ∧ w2.cell? ⟨w.heap.size, 2, none⟩ = some c := by
  have h1 : w1.heap[w.heap.size]? = some (.cells #[a, b, c] 25 (0, 0)) := by rw [hb.block _ (by simp)]; exact heap_alloc_new w _
  have hl : w.heap.size < w1.heap.size := (Array.getElem?_eq_some_iff.1 h1).1
  have h2 : (w1.alloc ob).heap[w.heap.size]? = some (.cells #[a, b, c] 25 (0, 0)) := by rw [Lib.alloc_old w1 _ _ hl]; exact h1
  have h3 := h.others _ _ h2 (by intro e; simp only [Option.some.injEq] at e; omega) (by intro _ _ e; cases e)
  refine ⟨?_, ?_, ?_⟩ <;> (rw [cell_of_row _ w.heap.size _ _ _ _ h3]; rfl)
theorem OwnI.formM {w : World} {base : Nat} {v : Value} {xs : List Int} (h : OwnI w base v xs) {n : Nat} (hn : xs.length = n) (hp : 0 < n) : ∃ g cap, v = .slice (some ⟨g, 0, none⟩) n cap := by
  rcases h.2 with ⟨_, e⟩ | ⟨g', cap, cur, e, _⟩
  · omega
  · exact ⟨g', cap, by rw [e, hn]⟩
theorem OwnI.stays {W : World} {base g n c B b : Nat} {bs : List UInt8} {ys : List Int} (h : OwnI W base (.slice (some ⟨g, 0, none⟩) n c) ys) (hb : BL B b bs W) : ∀ w', OK2 B b W w' → ∀ j, j < ys.length → w'.cell? ⟨g, 0 + j, none⟩ = some (.int .i64 (ix ys j)) := by
  intro w' hk j hj
  have hbl : ∃ cs, W.heap[b]? = some (.cells cs 48 (0, 0)) := by
    rcases hb with ⟨_, v, h1, _⟩ | ⟨_, v, h1, _⟩ <;> exact ⟨_, h1⟩
  obtain ⟨cs, hcs⟩ := hbl
  rcases h.2 with ⟨e, _⟩ | ⟨g', cap, cur, e, _, hg, _⟩
  · cases e
  · have hgg : g = g' := by simp only [Value.slice.injEq, Option.some.injEq, Addr.mk.injEq] at e; exact e.1.1
    subst hgg
    have h3 := hk.others _ _ hg (by intro e; simp only [Option.some.injEq] at e; subst e; rw [hcs] at hg; cases hg) (by intro _ _ e; cases e)
    obtain ⟨b', o', e1, hlt, hc⟩ := h.rd1.ints (by omega)
    simp only [Option.some.injEq, Addr.mk.injEq] at e1
    obtain ⟨rfl, rfl, _⟩ := e1
    rw [World.cell?_of_block (w := W) (by show w'.heap[g]? = W.heap[g]?; rw [h3, hg])]
    exact hc j hj

set_option maxHeartbeats 4000000 in
set_option maxRecDepth 10000 in
theorem Print_yes {xs zs : List Int} {rs : List (List Int)} (hr : tableB xs zs rs = true) (A1 : Option Addr) (c1 : Nat) (A2 : Option Addr) (c2 : Nat) (A3 : Option Addr) (c3 : Nat) (vs : List Value) (w : World) (h : TD w w.heap.size xs zs rs A1 c1 A2 c2 A3 c3 vs) (hp : Pow w) :
    Calls Tryd.prog 10 #[.agg #[.slice A1 xs.length c1, .slice A2 zs.length c2, .slice A3 rs.length c3]] w fun e w' => e = .returned (.tuple #[.string ⟨(printT xs zs rs).toArray⟩, .int .i64 0]) ∧ Below w.heap.size w w' := by
  have C : Hid (∀ W, Below w.heap.size w W → Calls Tryd.prog 20 #[.agg #[.slice A1 xs.length c1, .slice A2 zs.length c2, .slice A3 rs.length c3]] W fun e w' => e = .returned (.bool true) ∧ Below W.heap.size W w') := Lib.hid (fun W hB => isTable_is hr A1 c1 A2 c2 A3 c3 vs W ((h.keep hB (Nat.le_refl _)).more hB.size))
  obtain ⟨ok1, ok2, hrl, hrw, hH⟩ := table_ok hr
  obtain ⟨iz, ir⟩ := table_in hr
  obtain ⟨n, hn⟩ : ∃ n, xs.length = n := ⟨_, rfl⟩
  obtain ⟨m, hm⟩ : ∃ n, zs.length = n := ⟨_, rfl⟩
  have n2 : 2 ≤ n := by have := ok1.two; omega
  have n9 : n ≤ 9 := by have := ok1.many; omega
  have m2 : 2 ≤ m := by have := ok2.two; omega
  have m7 : m ≤ 7 := by have := ok2.many; omega
  have hrn : rs.length = n := hrl.trans hn
  have HT := Lib.hid h
  have hmf : ∀ (fn : Fn) (first cap : Array Value) (w : World), (Instr.makeFunc fn first cap).run Tryd.prog w = .ok (.func fn first cap) w := fun _ _ _ _ => rfl
  have HPK : Hid (∀ W, Below w.heap.size w W → Pow W) := Lib.hid (fun W hB => hp.keep hB)
  have hwl := rowT_le watersW (by decide) zs iz
  have hll := linesT_le m7 (fun i hi => (hrw i hi).trans hm) ir
  have HRW : Hid (∀ i, i < n → (rx rs i).length = m) := Lib.hid (fun i hi => by rw [hrw i (by omega), hm])
  have HIR : Hid (∀ i, i < n → In64 (ix xs i :: rx rs i)) := Lib.hid (fun i hi => ir i (by omega))
  rw [hm] at hwl
  rw [hrn] at hll
  have hpt : printT xs zs rs = rowT watersW zs ++ linesT xs rs n := by unfold printT; rw [hrn]
  rw [hpt]
  have HLL := Lib.hid hll
  have HN := Lib.hid hn
  have HM := Lib.hid hm
  have HRN := Lib.hid hrn
  have HIZ := Lib.hid iz
  rw [hn, hm, hrn] at C ⊢
  clear ok1 ok2 hrl hrw hH hn hm hrn h hr iz ir hpt hll hp
  obtain ⟨b1, o1, rfl, hb1, hc1'⟩ := HT.out.rd1.ints (by have := HN.out; omega)
  obtain ⟨b2, o2, rfl, hb2, hc2'⟩ := HT.out.rd2.ints (by have := HM.out; omega)
  obtain ⟨b3, o3, rfl, hb3, hc3'⟩ := HT.out.rd3.cells (by have := HRN.out; omega)
  have HC1 := Lib.hid hc1'
  have HC2 := Lib.hid hc2'
  have HC3 := Lib.hid hc3'
  clear hc1' hc2' hc3' hb1 hb2 hb3
  go_enter Tryd.func10, Tryd.ntmps10
  go_wp2_with (go_at_call 20; (with_reducible refine (C.out _ (Below.alloc (Below.refl _ _) (Nat.le_refl _) _)).mono ?_); rintro e w1 ⟨rfl, hb1⟩; obtain ⟨d0, d1, d2⟩ := cells_box3 hb1; have hz1 : w.heap.size < w1.heap.size := (by have := hb1.size; simp at this; omega); have hB1 := Lib.hid (below_step hb1 (Below.alloc (Below.refl _ _) (Nat.le_refl _) _) (by simp)); have BX : Hid (∀ w2, OK2 w.heap.size w1.heap.size (w1.alloc (.cells #[.pointer none, .slice none 0 0] 48)) w2 → w2.cell? ⟨w.heap.size, 0, none⟩ = _ ∧ w2.cell? ⟨w.heap.size, 1, none⟩ = _ ∧ w2.cell? ⟨w.heap.size, 2, none⟩ = _) := Lib.hid (fun w2 hk => box_stays hb1 hk); clear hb1)
  have hW0 : Hid (Below w.heap.size w (w1.alloc (.cells #[.pointer none, .slice none 0 0] 48))) := Lib.hid (hB1.out.alloc hB1.out.size _)
  refine (Print1_is w.heap.size w1.heap.size [] watersW (by simp) (by decide) zs HIZ.out HM.out (by omega) b2 o2 c2 _ (fun w' hk j hj => cell_later (hW0.out.trans hk.below) (HC2.out j (by have := HM.out; omega))) (fun w' hk => HPK.out w' (hW0.out.trans hk.below)) (BL.start w1 w.heap.size (by omega)) (by simp; omega)).mono ?_
  rintro e w2 ⟨rfl, h2, k2⟩
  obtain ⟨e0, e1, e2⟩ := BX.out w2 k2
  have H2 := Lib.hid h2
  have K2 := Lib.hid k2
  clear h2 k2
  go_wp2
  go_loopw [19] (fun x wr => ∃ k : Nat, k ≤ n ∧ x = .int .i64 k ∧ BL w.heap.size w1.heap.size (rowT watersW zs ++ linesT xs rs k) wr ∧ OK2 w.heap.size w1.heap.size (w1.alloc (.cells #[.pointer none, .slice none 0 0] 48)) wr) (fun x _ => n - (intOf x).toNat)
  case atStart => exact ⟨0, by omega, rfl, by simpa [linesT] using H2.out, K2.out⟩
  case round =>
    obtain ⟨k, hk, rfl, hbl, hok⟩ := hrel
    have HBR := Lib.hid hbl
    have HKR := Lib.hid hok
    obtain ⟨f0, f1, f2⟩ := BX.out wr hok
    have hBt : Hid (Below w.heap.size w wr) := Lib.hid (hW0.out.trans hok.below)
    have hsz : w.heap.size ≤ wr.heap.size := hBt.out.size
    clear hbl hok
    by_cases hk' : k < n
    · obtain ⟨Ai, ci, hv, hci, hmi, hri⟩ := HT.out.rd3.each k (by have := HRN.out; omega)
      have x1 := cell_later hBt.out (HC1.out k (by have := HN.out; omega))
      have x3 := cell_later hBt.out (HC3.out k (by have := HRN.out; omega))
      rw [hv, HRW.out k hk'] at x3
      obtain ⟨bi, oi, rfl, hbi, hcl⟩ := hri.ints (by rw [HRW.out k hk']; omega)
      rw [HRW.out k hk'] at hcl
      have HCL : Hid (∀ W, Below wr.heap.size wr W → ∀ j, j < m → W.cell? ⟨bi, oi + j, none⟩ = some (.int .i64 (ix (rx rs k) j))) := Lib.hid (fun W hW j hj => cell_later hW (cell_later hBt.out (hcl j hj)))
      have HI := Lib.hid (HIR.out k hk')
      have hst := linesT_succ xs rs k
      have hll := HLL.out k (by omega)
      have HMr := Lib.hid (HRW.out k hk')
      obtain ⟨y, hy⟩ : ∃ y, ix xs k = y := ⟨_, rfl⟩
      obtain ⟨rk, hrk⟩ : ∃ y, rx rs k = y := ⟨_, rfl⟩
      rw [hy, hrk] at HI hst
      rw [hrk] at HCL HMr
      rw [hy] at x1
      obtain ⟨s, hs⟩ : ∃ l, rowT watersW zs ++ linesT xs rs k = l := ⟨_, rfl⟩
      have hsl : s.length ≤ 4000 := by rw [← hs, List.length_append]; omega
      rw [hs] at HBR
      have HS : Hid (rowT watersW zs ++ linesT xs rs (k + 1) = s ++ rowT stationW (y :: rk)) := Lib.hid (by rw [hst, ← List.append_assoc, hs])
      have HLN : Hid ((([y] : List Int) ++ rk).length = m + 1) := Lib.hid (by rw [List.length_append, HMr.out]; simp; omega)
      clear hv hri hcl hci hmi hy hrk hs hst hll hbi
      have R4 : Hid (∀ W4 g4 d4, Below wr.heap.size wr W4 → OwnI W4 wr.heap.size (.slice (some ⟨g4, 0, none⟩) (m + 1) d4) ([y] ++ rk) → Calls Tryd.prog 24 #[.string ⟨#[115, 116, 97, 116, 105, 111, 110]⟩, .slice (some ⟨g4, 0, none⟩) (m + 1) d4, .pointer (some ⟨w1.heap.size, 0, none⟩)] W4 fun e w' => e = .returned (.tuple #[]) ∧ BL w.heap.size w1.heap.size (s ++ rowT stationW (y :: rk)) w' ∧ OK2 w.heap.size w1.heap.size wr w') := Lib.hid (fun W4 g4 d4 hB ho =>
        have hk4 : OK2 w.heap.size w1.heap.size wr W4 := OK2.of_below hB hsz
        (Print1_is w.heap.size w1.heap.size s stationW (by omega) (by decide) (y :: rk) HI.out HLN.out (by omega) g4 0 d4 W4 (fun w' hk j hj => ho.stays (HBR.out.keep hB) w' hk j (by rw [HLN.out]; exact hj)) (fun w' hk => HPK.out w' (hBt.out.trans (hk4.trans hk).below)) (HBR.out.keep hB) (Nat.le_trans hsz hB.size)).mono fun e w' ⟨h1, h2, h3⟩ => ⟨h1, h2, hk4.trans h3⟩)
      have P1 := Lib.hid (ownI_one wr wr.heap.size (Nat.le_refl _) y)
      have P2 : Hid (∀ j, j < m → (wr.alloc (.cells #[.int .i64 y] 3)).cell? ⟨bi, oi + j, none⟩ = some (.int .i64 (ix rk j))) := Lib.hid (fun j hj => HCL.out _ (Below.alloc (Below.refl _ _) (Nat.le_refl _) _) j hj)
      have P3 : [y].length + m ≤ 1000000 := by simp only [List.length_cons, List.length_nil]; omega
      have P4 : wr.heap.size ≤ (wr.alloc (.cells #[.int .i64 y] 3)).heap.size := by simp
      have HP3 := Lib.hid P3
      have HP4 := Lib.hid P4
      clear P3 P4
      go_wp2_with (first | (at_builtin; refine wpList_appN rfl (.tmp 30) (.tmp 31) rfl wr.heap.size _ [y] rfl P1.out bi oi m ci rk HMr.out rfl P2.out HP3.out HP4.out ?_; intro v4 W4 ho4 hg4; obtain ⟨g4, d4, rfl⟩ := ho4.formM (n := m + 1) HLN.out (by omega); have HB4 := Lib.hid (show Below wr.heap.size wr W4 from app1_below (Below.refl _ wr) hg4); have HO4 := Lib.hid ho4; clear ho4 hg4))
      refine (R4.out _ _ _ HB4.out HO4.out).mono ?_
      rintro e w5 ⟨rfl, h5, k5⟩
      have H5 := Lib.hid h5
      have K5 := Lib.hid k5
      clear h5 k5
      go_wp2
      go_roundw
      case rel => exact ⟨k + 1, by omega, by go_num, by rw [HS.out]; exact H5.out, HKR.out.trans K5.out⟩
      case measure => simp [intOf]; omega
    · obtain rfl : k = n := by omega
      go_wp2_with fail
      refine (BS_is _ _ _ _ HBR.out hsz).mono ?_
      rintro e w5 ⟨rfl, hb5⟩
      go_wp2
      go_ret2
      exact ⟨rfl, hBt.out.trans hb5⟩

theorem Print_any {xs zs : List Int} {rs : List (List Int)} (A1 : Option Addr) (c1 : Nat) (A2 : Option Addr) (c2 : Nat) (A3 : Option Addr) (c3 : Nat) (vs : List Value) (w : World) (h : TD w w.heap.size xs zs rs A1 c1 A2 c2 A3 c3 vs) (hp : Pow w) :
    Calls Tryd.prog 10 #[.agg #[.slice A1 xs.length c1, .slice A2 zs.length c2, .slice A3 rs.length c3]] w fun e w' => e = .returned (.tuple #[.string ⟨(printV xs zs rs).toArray⟩, .int .i64 (tabE xs zs rs)]) ∧ Below w.heap.size w w' := by
  cases hr : tableB xs zs rs with
  | true =>
    have e1 : printV xs zs rs = printT xs zs rs := by unfold printV; rw [hr]; rfl
    have e2 : tabE xs zs rs = 0 := by unfold tabE; rw [hr]; rfl
    rw [e1, e2]
    exact Print_yes hr A1 c1 A2 c2 A3 c3 vs w h hp
  | false =>
    have C : Hid (∀ W, Below w.heap.size w W → Calls Tryd.prog 20 #[.agg #[.slice A1 xs.length c1, .slice A2 zs.length c2, .slice A3 rs.length c3]] W fun e w' => e = .returned (.bool false) ∧ Below W.heap.size W w') := Lib.hid (fun W hB => isTable_is hr A1 c1 A2 c2 A3 c3 vs W ((h.keep hB (Nat.le_refl _)).more hB.size))
    have e1 : printV xs zs rs = [] := by unfold printV; rw [hr]; rfl
    have e2 : tabE xs zs rs = 13 := by unfold tabE; rw [hr]; rfl
    rw [e1, e2]
    clear e1 e2 h hr
    go_enter Tryd.func10, Tryd.ntmps10
    go_wp2_with (go_at_call 20; (with_reducible refine (C.out _ (Below.alloc (Below.refl _ _) (Nat.le_refl _) _)).mono ?_); rintro e w1 ⟨rfl, hb1⟩)
    go_ret2
    exact ⟨rfl, below_step hb1 (Below.alloc (Below.refl _ _) (Nat.le_refl _) _) (by simp)⟩

end Go.Proofs.YtdlmdaononclgaaDoor
