import Derived.Test.YtdlmdaononclgaaArea2
import Derived.Test.YtdlmdaononclgaaRws
/- isGrid and isTable. -/
namespace Go.Proofs.Ytdlmdaononclgaa
open Go.RowKit
set_option linter.unusedVariables false
set_option linter.unusedSimpArgs false

/-- outside of 0 .. 20000. -/
def badH (n : Int) : Bool := !within n 0 20000
theorem badH_pred : Pred 102 badH := by
  intro x W
  cases h : within x 0 20000 with
  | false =>
    go_enter Try.func102, Try.ntmps102
    go_wp2_with (go_at_call 71; (with_reducible refine (isWithin_is h _).mono ?_); rintro e w' ⟨rfl, rfl⟩)
    go_ret
    exact ⟨ret_bool (by simp [badH, h]), rfl⟩
  | true =>
    go_enter Try.func102, Try.ntmps102
    go_wp2_with (go_at_call 71; (with_reducible refine (isWithin_is h _).mono ?_); rintro e w' ⟨rfl, rfl⟩)
    go_ret
    exact ⟨ret_bool (by simp [badH, h]), rfl⟩

/-- are these the positions of a table? -/
def gridB (xs zs : List Int) : Bool := okP 9 100000 xs && okP 7 15000 zs
theorem isGrid_is {xs zs : List Int} {r : Bool} (hr : gridB xs zs = r) (A : Option Addr) (c : Nat) (A2 : Option Addr) (c2 : Nat) (hc : xs.length ≤ c) (hm : c ≤ 9223372036854775807) (hc2 : zs.length ≤ c2) (hm2 : c2 ≤ 9223372036854775807) (w : World) {B B2 : Nat} (h : RD w B A (ints xs)) (h2 : RD w B2 A2 (ints zs)) :
    Calls Try.prog 98 #[.slice A xs.length c, .slice A2 zs.length c2] w fun e w' => e = .returned (.bool r) ∧ w = w' := by
  cases h1 : okP 9 100000 xs with
  | false =>
    have e : r = false := by rw [← hr, gridB, h1]; rfl
    subst e
    clear hr
    go_enter Try.func98, Try.ntmps98
    go_wp2_with (go_at_call 75; (with_reducible refine (arePlaces_is h1 A c _ hc hm h).mono ?_); rintro e w' ⟨rfl, rfl⟩)
    go_ret
    exact ⟨rfl, rfl⟩
  | true =>
    have e : okP 7 15000 zs = r := by rw [← hr, gridB, h1]; rfl
    clear hr
    go_enter Try.func98, Try.ntmps98
    go_wp2_with (first | (go_at_call 75; (with_reducible refine (arePlaces_is h1 A c _ hc hm h).mono ?_); rintro e w' ⟨rfl, rfl⟩) | (go_at_call 75; (with_reducible refine (arePlaces_is e A2 c2 _ hc2 hm2 h2).mono ?_); rintro e w' ⟨rfl, rfl⟩))
    go_ret
    exact ⟨rfl, rfl⟩

/-- is a row of another length, or has it a wrong half? -/
def rowBad (m : Nat) (l : List Int) : Bool := !decide (l.length = m) || anyB badH l
/-- a table's box. -/
structure TBox (w : World) (q : Nat) (s1 s2 s3 : Value) : Prop where
  c0 : w.cell? ⟨q, 0, none⟩ = some s1
  c1 : w.cell? ⟨q, 1, none⟩ = some s2
  c2 : w.cell? ⟨q, 2, none⟩ = some s3
/-- a predicate on rows, in one world. -/
def PredR (g : Nat) (q : Nat) (p : List Int → Bool) (w : World) (B : Nat) : Prop :=
  ∀ (v : Value) (l : List Int) (b : Bool), p l = b → SL w B v l → Calls Try.prog g #[v, .pointer (some ⟨q, 0, none⟩)] w fun e w' => e = .returned (.bool b) ∧ w = w'

theorem PredR.at {g q : Nat} {p : List Int → Bool} {w : World} {B : Nat} (h : PredR g q p w B) {v : Value} {l : List Int} {b : Bool} (hq : p l = b) (hs : SL w B v l) :
    Calls Try.prog g #[v, .pointer (some ⟨q, 0, none⟩)] w fun e w' => e = .returned (.bool b) ∧ w = w' := h v l b hq hs

theorem rowBad_pred (q : Nat) (zs : List Int) (A2 : Option Addr) (c2 : Nat) (w : World) (B : Nat) (hq : w.cell? ⟨q, 1, none⟩ = some (.slice A2 zs.length c2)) : PredR 100 q (rowBad zs.length) w B := by
  rintro v l b hb ⟨A, c, rfl, hc, hm, h⟩
  have eg : ∀ args w, (callFunc 102 args).run Try.prog w = .ok (.enter 102 args) w := enters_of Try.func102 (by kernel_rfl) rfl
  have EG := Lib.hid eg
  clear eg
  by_cases hl : l.length = zs.length
  · have hr : anyB badH l = b := by rw [← hb, rowBad]; simp [hl]
    have e1 : (((l.length : Int) != (zs.length : Int)) = false) := by simp [hl]
    have HL := Lib.hid hl
    clear hl hb
    go_enter Try.func100, Try.ntmps100
    go_wp2_with (go_at_call 101; (with_reducible refine (ContainsFunc_is _ EG.out badH_pred hr A c _ hc hm h).mono ?_); rintro e w' ⟨rfl, rfl⟩)
    go_ret
    exact ⟨rfl, rfl⟩
  · have e : b = true := by rw [← hb, rowBad]; simp [hl]
    subst e
    have e1 := neq_beq hl
    have HL := Lib.hid hl
    clear hl hb
    go_enter Try.func100, Try.ntmps100
    go_wp2_with fail
    go_ret
    exact ⟨rfl, rfl⟩

/-- does p hold of some row? -/
def anyR (p : List Int → Bool) (rs : List (List Int)) : Bool := rs.any p
theorem anyR_no {p : List Int → Bool} {rs : List (List Int)} (h : ∀ j, j < rs.length → p (rx rs j) = false) : anyR p rs = false := by
  rw [anyR, List.any_eq_false]
  intro x hx
  obtain ⟨j, hj, rfl⟩ := List.getElem_of_mem hx
  have := h j hj
  simp only [rx, List.getD, List.getElem?_eq_getElem hj, Option.getD_some] at this
  simp [this]
theorem anyR_yes {p : List Int → Bool} {rs : List (List Int)} (j : Nat) (hj : j < rs.length) (h : p (rx rs j) = true) : anyR p rs = true := by
  rw [anyR, List.any_eq_true]
  refine ⟨rs[j], List.getElem_mem hj, ?_⟩
  simpa only [rx, List.getD, List.getElem?_eq_getElem hj, Option.getD_some] using h

def IdxPostR (p : List Int → Bool) (rs : List (List Int)) (w : World) (e : Ending) (w' : World) : Prop :=
  ∃ i : Int, e = .returned (.int .i64 i) ∧ w = w' ∧ decide (0 ≤ i) = anyR p rs

set_option maxHeartbeats 1000000 in
theorem IndexFuncR_any (g q : Nat) (eg : ∀ args w, (callFunc g args).run Try.prog w = .ok (.enter g args) w) (p : List Int → Bool) (w : World) {B : Nat} (hp : PredR g q p w B) (rs : List (List Int)) (vs : List Value) (A : Option Addr) (c : Nat) (hc : rs.length ≤ c) (hm : c ≤ 9223372036854775807) (h : RR w B A vs rs) :
    Calls Try.prog 111 #[.slice A rs.length c, .func (.func g) #[] #[.pointer (some ⟨q, 0, none⟩)]] w (IdxPostR p rs w) := by
  have HP := Lib.hid hp; clear hp
  have HR := Lib.hid h; clear h
  go_enter Try.func111, Try.ntmps111
  go_wp2
  go_loop [8] (fun x => ∃ k : Nat, k ≤ rs.length ∧ x = .int .i64 k ∧ ∀ j : Nat, j < k → p (rx rs j) = false) (fun x => rs.length - (intOf x).toNat)
  case atStart => exact ⟨0, by omega, rfl, fun j hj => by omega⟩
  case round =>
    obtain ⟨k, hk, rfl, hlt⟩ := hrel
    have HL := Lib.hid hlt; clear hlt
    by_cases hk' : k < rs.length
    · obtain ⟨b, off, rfl, hb, hcell⟩ := HR.out.cells (by omega)
      have y0 := hcell k (by omega)
      have hsl := HR.out.each k hk'
      have HS := Lib.hid hsl
      clear hcell hsl
      cases hq : p (rx rs k) with
      | true =>
        have HQ := Lib.hid hq
        go_wp2_with (go_at_fn g; (with_reducible refine (PredR.at HP.out HQ.out HS.out).mono ?_); rintro e w' ⟨rfl, rfl⟩)
        go_ret
        exact ⟨k, rfl, rfl, by rw [anyR_yes k hk' HQ.out]; exact decide_eq_true (by omega)⟩
      | false =>
        have HQ := Lib.hid hq
        go_wp2_with (go_at_fn g; (with_reducible refine (PredR.at HP.out HQ.out HS.out).mono ?_); rintro e w' ⟨rfl, rfl⟩)
        go_round
        case rel => exact ⟨k + 1, by omega, by go_num, fun j hj => (by rcases (by omega : j < k ∨ j = k) with h | rfl; exact HL.out j h; exact HQ.out)⟩
        case measure => simp [intOf]; omega
    · go_wp2
      go_ret
      exact ⟨-1, rfl, rfl, by rw [anyR_no (fun j hj => HL.out j (by omega))]; rfl⟩

theorem ContainsFuncR_is (g q : Nat) (eg : ∀ args w, (callFunc g args).run Try.prog w = .ok (.enter g args) w) {p : List Int → Bool} (w : World) {B : Nat} (hp : PredR g q p w B) {rs : List (List Int)} {r : Bool} (hr : anyR p rs = r) (vs : List Value) (A : Option Addr) (c : Nat) (hc : rs.length ≤ c) (hm : c ≤ 9223372036854775807) (h : RR w B A vs rs) :
    Calls Try.prog 99 #[.slice A rs.length c, .func (.func g) #[] #[.pointer (some ⟨q, 0, none⟩)]] w fun e w' => e = .returned (.bool r) ∧ w = w' := by
  have H := Lib.hid (IndexFuncR_any g q eg p w hp rs vs A c hc hm h)
  have HR := Lib.hid hr; clear hr hp h
  go_enter Try.func99, Try.ntmps99
  go_wp2_with (go_at_call 111; (with_reducible refine H.out.mono ?_); rintro e w' ⟨i, rfl, rfl, hi⟩; have HI := Lib.hid hi; clear hi)
  go_ret
  exact ⟨ret_bool (HI.out.trans HR.out), rfl⟩

/-- is it a valid table? -/
def tableB (xs zs : List Int) (rs : List (List Int)) : Bool := gridB xs zs && (decide (rs.length = xs.length) && !anyR (rowBad zs.length) rs)

/-- a table's parts as data: stations, waters, halves. -/
structure TD (w : World) (B : Nat) (xs zs : List Int) (rs : List (List Int)) (A1 : Option Addr) (c1 : Nat) (A2 : Option Addr) (c2 : Nat) (A3 : Option Addr) (c3 : Nat) (vs : List Value) : Prop where
  hc1 : xs.length ≤ c1
  hm1 : c1 ≤ 9223372036854775807
  rd1 : RD w B A1 (ints xs)
  hc2 : zs.length ≤ c2
  hm2 : c2 ≤ 9223372036854775807
  rd2 : RD w B A2 (ints zs)
  hc3 : rs.length ≤ c3
  hm3 : c3 ≤ 9223372036854775807
  rd3 : RR w B A3 vs rs
theorem TD.keep {w w' : World} {B B' : Nat} {xs zs : List Int} {rs : List (List Int)} {A1 A2 A3 : Option Addr} {c1 c2 c3 : Nat} {vs : List Value} (h : TD w B xs zs rs A1 c1 A2 c2 A3 c3 vs) (hb : Below B' w w') (hB : B ≤ B') : TD w' B xs zs rs A1 c1 A2 c2 A3 c3 vs :=
  ⟨h.hc1, h.hm1, h.rd1.keep hb hB, h.hc2, h.hm2, h.rd2.keep hb hB, h.hc3, h.hm3, h.rd3.keep hb hB⟩
theorem TD.more {w : World} {B B' : Nat} {xs zs : List Int} {rs : List (List Int)} {A1 A2 A3 : Option Addr} {c1 c2 c3 : Nat} {vs : List Value} (h : TD w B xs zs rs A1 c1 A2 c2 A3 c3 vs) (hB : B ≤ B') : TD w B' xs zs rs A1 c1 A2 c2 A3 c3 vs :=
  ⟨h.hc1, h.hm1, h.rd1.more hB, h.hc2, h.hm2, h.rd2.more hB, h.hc3, h.hm3, h.rd3.more hB⟩

set_option maxHeartbeats 1000000 in
theorem isTable_is {xs zs : List Int} {rs : List (List Int)} {r : Bool} (hr : tableB xs zs rs = r) (A1 : Option Addr) (c1 : Nat) (A2 : Option Addr) (c2 : Nat) (A3 : Option Addr) (c3 : Nat) (vs : List Value) (w : World) (h : TD w w.heap.size xs zs rs A1 c1 A2 c2 A3 c3 vs) :
    Calls Try.prog 60 #[.agg #[.slice A1 xs.length c1, .slice A2 zs.length c2, .slice A3 rs.length c3]] w fun e w' => e = .returned (.bool r) ∧ Below w.heap.size w w' := by
  have eg : ∀ args w, (callFunc 100 args).run Try.prog w = .ok (.enter 100 args) w := enters_of Try.func100 (by kernel_rfl) rfl
  have hmf : ∀ (fn : Fn) (first cap : Array Value) (w : World), (Instr.makeFunc fn first cap).run Try.prog w = .ok (.func fn first cap) w := fun _ _ _ _ => rfl
  have EG := Lib.hid eg
  have H := Lib.hid h
  clear eg h
  cases hg : gridB xs zs with
  | false =>
    have e : r = false := by rw [← hr, tableB, hg]; rfl
    subst e
    have HG := Lib.hid hg
    clear hr hg
    go_enter Try.func60, Try.ntmps60
    go_wp2_with (go_at_call 98; (with_reducible refine (isGrid_is HG.out A1 c1 A2 c2 H.out.hc1 H.out.hm1 H.out.hc2 H.out.hm2 _ (H.out.rd1.keep (by repeat' (first | (with_reducible exact Below.refl _ _) | (with_reducible assumption) | (refine below_step (by assumption) ?_ ?_) | (with_reducible refine below_drewN ?_ _) | (with_reducible refine Below.drew ?_) | (with_reducible refine Below.alloc ?_ ?_ _) | (with_reducible refine Below.setCell ?_ ?_ _) | go_size)) (Nat.le_refl _)) (H.out.rd2.keep (by repeat' (first | (with_reducible exact Below.refl _ _) | (with_reducible assumption) | (refine below_step (by assumption) ?_ ?_) | (with_reducible refine below_drewN ?_ _) | (with_reducible refine Below.drew ?_) | (with_reducible refine Below.alloc ?_ ?_ _) | (with_reducible refine Below.setCell ?_ ?_ _) | go_size)) (Nat.le_refl _))).mono ?_); rintro e w' ⟨rfl, rfl⟩)
    go_ret
    refine ⟨rfl, ?_⟩
    repeat' (first | (with_reducible exact Below.refl _ _) | (with_reducible assumption) | (refine below_step (by assumption) ?_ ?_) | (with_reducible refine below_drewN ?_ _) | (with_reducible refine Below.drew ?_) | (with_reducible refine Below.alloc ?_ ?_ _) | (with_reducible refine Below.setCell ?_ ?_ _) | go_size)
  | true =>
    have HG := Lib.hid hg
    by_cases hl : rs.length = xs.length
    · cases ha : anyR (rowBad zs.length) rs with
      | true =>
        have e : r = false := by rw [← hr, tableB, ha]; simp
        subst e
        have e1 : (((rs.length : Int) == (xs.length : Int)) = true) := by simp [hl]
        have HL := Lib.hid hl
        have HA := Lib.hid ha
        clear hr hg hl ha
        go_enter Try.func60, Try.ntmps60
        go_wp2_with (first | (go_at_call 98; (with_reducible refine (isGrid_is HG.out A1 c1 A2 c2 H.out.hc1 H.out.hm1 H.out.hc2 H.out.hm2 _ (H.out.rd1.keep (by repeat' (first | (with_reducible exact Below.refl _ _) | (with_reducible assumption) | (refine below_step (by assumption) ?_ ?_) | (with_reducible refine below_drewN ?_ _) | (with_reducible refine Below.drew ?_) | (with_reducible refine Below.alloc ?_ ?_ _) | (with_reducible refine Below.setCell ?_ ?_ _) | go_size)) (Nat.le_refl _)) (H.out.rd2.keep (by repeat' (first | (with_reducible exact Below.refl _ _) | (with_reducible assumption) | (refine below_step (by assumption) ?_ ?_) | (with_reducible refine below_drewN ?_ _) | (with_reducible refine Below.drew ?_) | (with_reducible refine Below.alloc ?_ ?_ _) | (with_reducible refine Below.setCell ?_ ?_ _) | go_size)) (Nat.le_refl _))).mono ?_); rintro e w' ⟨rfl, rfl⟩) | (go_at_call 99; (with_reducible refine (ContainsFuncR_is _ w.heap.size EG.out _ (rowBad_pred w.heap.size zs A2 c2 _ w.heap.size (by simp [go_sem])) HA.out vs A3 c3 H.out.hc3 H.out.hm3 (H.out.rd3.keep (by repeat' (first | (with_reducible exact Below.refl _ _) | (with_reducible assumption) | (refine below_step (by assumption) ?_ ?_) | (with_reducible refine below_drewN ?_ _) | (with_reducible refine Below.drew ?_) | (with_reducible refine Below.alloc ?_ ?_ _) | (with_reducible refine Below.setCell ?_ ?_ _) | go_size)) (Nat.le_refl _))).mono ?_); rintro e w' ⟨rfl, rfl⟩))
        go_ret
        refine ⟨rfl, ?_⟩
        repeat' (first | (with_reducible exact Below.refl _ _) | (with_reducible assumption) | (refine below_step (by assumption) ?_ ?_) | (with_reducible refine below_drewN ?_ _) | (with_reducible refine Below.drew ?_) | (with_reducible refine Below.alloc ?_ ?_ _) | (with_reducible refine Below.setCell ?_ ?_ _) | go_size)
      | false =>
        have e : r = true := by rw [← hr, tableB, ha, hg]; simp [hl]
        subst e
        have e1 : (((rs.length : Int) == (xs.length : Int)) = true) := by simp [hl]
        have HL := Lib.hid hl
        have HA := Lib.hid ha
        clear hr hg hl ha
        go_enter Try.func60, Try.ntmps60
        go_wp2_with (first | (go_at_call 98; (with_reducible refine (isGrid_is HG.out A1 c1 A2 c2 H.out.hc1 H.out.hm1 H.out.hc2 H.out.hm2 _ (H.out.rd1.keep (by repeat' (first | (with_reducible exact Below.refl _ _) | (with_reducible assumption) | (refine below_step (by assumption) ?_ ?_) | (with_reducible refine below_drewN ?_ _) | (with_reducible refine Below.drew ?_) | (with_reducible refine Below.alloc ?_ ?_ _) | (with_reducible refine Below.setCell ?_ ?_ _) | go_size)) (Nat.le_refl _)) (H.out.rd2.keep (by repeat' (first | (with_reducible exact Below.refl _ _) | (with_reducible assumption) | (refine below_step (by assumption) ?_ ?_) | (with_reducible refine below_drewN ?_ _) | (with_reducible refine Below.drew ?_) | (with_reducible refine Below.alloc ?_ ?_ _) | (with_reducible refine Below.setCell ?_ ?_ _) | go_size)) (Nat.le_refl _))).mono ?_); rintro e w' ⟨rfl, rfl⟩) | (go_at_call 99; (with_reducible refine (ContainsFuncR_is _ w.heap.size EG.out _ (rowBad_pred w.heap.size zs A2 c2 _ w.heap.size (by simp [go_sem])) HA.out vs A3 c3 H.out.hc3 H.out.hm3 (H.out.rd3.keep (by repeat' (first | (with_reducible exact Below.refl _ _) | (with_reducible assumption) | (refine below_step (by assumption) ?_ ?_) | (with_reducible refine below_drewN ?_ _) | (with_reducible refine Below.drew ?_) | (with_reducible refine Below.alloc ?_ ?_ _) | (with_reducible refine Below.setCell ?_ ?_ _) | go_size)) (Nat.le_refl _))).mono ?_); rintro e w' ⟨rfl, rfl⟩))
        go_ret
        refine ⟨rfl, ?_⟩
        repeat' (first | (with_reducible exact Below.refl _ _) | (with_reducible assumption) | (refine below_step (by assumption) ?_ ?_) | (with_reducible refine below_drewN ?_ _) | (with_reducible refine Below.drew ?_) | (with_reducible refine Below.alloc ?_ ?_ _) | (with_reducible refine Below.setCell ?_ ?_ _) | go_size)
    · have e : r = false := by rw [← hr, tableB]; simp [hl]
      subst e
      have e1 : (((rs.length : Int) == (xs.length : Int)) = false) := by simp; omega
      have HL := Lib.hid hl
      clear hr hg hl
      go_enter Try.func60, Try.ntmps60
      go_wp2_with (go_at_call 98; (with_reducible refine (isGrid_is HG.out A1 c1 A2 c2 H.out.hc1 H.out.hm1 H.out.hc2 H.out.hm2 _ (H.out.rd1.keep (by repeat' (first | (with_reducible exact Below.refl _ _) | (with_reducible assumption) | (refine below_step (by assumption) ?_ ?_) | (with_reducible refine below_drewN ?_ _) | (with_reducible refine Below.drew ?_) | (with_reducible refine Below.alloc ?_ ?_ _) | (with_reducible refine Below.setCell ?_ ?_ _) | go_size)) (Nat.le_refl _)) (H.out.rd2.keep (by repeat' (first | (with_reducible exact Below.refl _ _) | (with_reducible assumption) | (refine below_step (by assumption) ?_ ?_) | (with_reducible refine below_drewN ?_ _) | (with_reducible refine Below.drew ?_) | (with_reducible refine Below.alloc ?_ ?_ _) | (with_reducible refine Below.setCell ?_ ?_ _) | go_size)) (Nat.le_refl _))).mono ?_); rintro e w' ⟨rfl, rfl⟩)
      go_ret
      refine ⟨rfl, ?_⟩
      repeat' (first | (with_reducible exact Below.refl _ _) | (with_reducible assumption) | (refine below_step (by assumption) ?_ ?_) | (with_reducible refine below_drewN ?_ _) | (with_reducible refine Below.drew ?_) | (with_reducible refine Below.alloc ?_ ?_ _) | (with_reducible refine Below.setCell ?_ ?_ _) | go_size)

end Go.Proofs.Ytdlmdaononclgaa
