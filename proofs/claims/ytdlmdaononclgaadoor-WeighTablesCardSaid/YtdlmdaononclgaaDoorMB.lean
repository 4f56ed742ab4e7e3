import Derived.Test.YtdlmdaononclgaaDoorMA
import Derived.Shelf.Abstract
import Derived.RangeFuncNested
import Derived.RangeFuncBound
import Derived.RangeFuncCalls
import Derived.RangeFuncLeaves
import Derived.Shelf.RegionOpen
import Derived.WalkKit
import Derived.OwnWalkIn
import Derived.TacticsInMore
import Derived.LoopNIn
import Derived.LoopIn
import Derived.WalkSpells
import Derived.WalkLawsBesides
import Derived.Handy
import Derived.Laws.EntriesVeiled
import Derived.Sort.QuietIn
import Derived.StillTailTactics
import Derived.OrdersHeld
import Derived.Lib.Hide
import Derived.BigQuiet
/- Slices that read as lists; valid positions: arePlaces and the reference's rising. -/
namespace Go.Proofs.YtdlmdaononclgaaDoor
open Go.RowKit
set_option linter.unusedVariables false
set_option linter.unusedSimpArgs false

/-- from the address A on, below block B, lie the cells cs (none: A may be nil). -/
def RD (w : World) (B : Nat) (A : Option Addr) (cs : List Value) : Prop :=
  cs = [] ∨ ∃ b off, A = some ⟨b, off, none⟩ ∧ b < B ∧ ∀ j v, cs[j]? = some v → w.cell? ⟨b, off + j, none⟩ = some v

theorem RD.keep {w w' : World} {B B' : Nat} {A : Option Addr} {cs : List Value} (h : RD w B A cs) (hb : Below B' w w') (hB : B ≤ B') : RD w' B A cs := by
  rcases h with h | ⟨b, off, rfl, hlt, hc⟩
  · exact .inl h
  · exact .inr ⟨b, off, rfl, hlt, fun j v hv => (hb.cell (p := ⟨b, off + j, none⟩) (by show b < B'; omega)).trans (hc j v hv)⟩
theorem RD.more {w : World} {B B' : Nat} {A : Option Addr} {cs : List Value} (h : RD w B A cs) (hB : B ≤ B') : RD w B' A cs := by
  rcases h with h | ⟨b, off, rfl, hlt, hc⟩
  · exact .inl h
  · exact .inr ⟨b, off, rfl, by omega, hc⟩
theorem RD.nil (w : World) (B : Nat) (A : Option Addr) : RD w B A [] := .inl rfl

/-- numbers as cells. -/
def ints (xs : List Int) : List Value := xs.map (Value.int .i64)
theorem ints_length (xs : List Int) : (ints xs).length = xs.length := List.length_map _
theorem ints_get (xs : List Int) (j : Nat) : (ints xs)[j]? = xs[j]?.map (Value.int .i64) := List.getElem?_map

/-- the number at an index (0 beyond the end), behind a name. -/
def ix (xs : List Int) (k : Nat) : Int := xs.getD k 0

/-- where there is a number the address is known, and all cells. -/
theorem RD.ints {w : World} {B : Nat} {A : Option Addr} {xs : List Int} (h : RD w B A (ints xs)) (hp : 0 < xs.length) :
    ∃ b off, A = some ⟨b, off, none⟩ ∧ b < B ∧ ∀ j, j < xs.length → w.cell? ⟨b, off + j, none⟩ = some (.int .i64 (ix xs j)) := by
  rcases h with h | ⟨b, off, rfl, hlt, hc⟩
  · have := congrArg List.length h; rw [ints_length] at this; simp only [List.length_nil] at this; omega
  · refine ⟨b, off, rfl, hlt, fun j hj => hc j _ ?_⟩
    rw [ints_get, List.getElem?_eq_getElem hj]
    simp [ix, List.getD, List.getElem?_eq_getElem hj]

/-- valid positions: 2 to many, rising, from 0 to most. -/
def okP (many most : Int) (xs : List Int) : Bool :=
  decide (2 ≤ xs.length ∧ (xs.length : Int) ≤ many ∧ 0 ≤ ix xs 0 ∧ ix xs (xs.length - 1) ≤ most ∧ ∀ k, k < xs.length - 1 → ix xs k < ix xs (k + 1))
structure OkP (many most : Int) (xs : List Int) : Prop where
  two : 2 ≤ xs.length
  many : (xs.length : Int) ≤ many
  low : 0 ≤ ix xs 0
  high : ix xs (xs.length - 1) ≤ most
  inc : ∀ k, k < xs.length - 1 → ix xs k < ix xs (k + 1)
theorem okP_true {many most : Int} {xs : List Int} (h : okP many most xs = true) : OkP many most xs :=
  let ⟨a, b, c, d, e⟩ := of_decide_eq_true h; ⟨a, b, c, d, e⟩
theorem okP_mk {many most : Int} {xs : List Int} (h : OkP many most xs) : okP many most xs = true := decide_eq_true ⟨h.two, h.many, h.low, h.high, h.inc⟩
theorem okP_no {many most : Int} {xs : List Int} (h : ¬ OkP many most xs) : okP many most xs = false := by
  cases e : okP many most xs with
  | false => rfl
  | true => exact absurd (okP_true e) h

set_option maxHeartbeats 1000000 in
theorem arePlaces_any (xs : List Int) (A : Option Addr) (c : Nat) (many most : Int) (w : World) (hc : xs.length ≤ c) (hm : c ≤ 9223372036854775807) {B : Nat} (h : RD w B A (ints xs)) :
    Calls Tryd.prog 35 #[.slice A xs.length c, .int .i64 many, .int .i64 most] w fun e w' => e = .returned (.bool (okP many most xs)) ∧ w = w' := by
  cases h1 : within (xs.length : Int) 2 many with
  | false =>
    have hn := within_false h1
    rw [okP_no (fun k => hn ⟨by have := k.two; omega, k.many⟩)]
    go_enter Tryd.func35, Tryd.ntmps35
    go_wp2_with (go_at_call 44; (with_reducible refine (isWithin_is h1 _).mono ?_); rintro e w' ⟨rfl, rfl⟩)
    go_ret
    exact ⟨rfl, rfl⟩
  | true =>
    obtain ⟨n2, nm⟩ := within_true h1
    obtain ⟨b, off, rfl, hb, hcell⟩ := h.ints (by omega)
    have x0 := hcell 0 (by omega)
    have xl := hcell (xs.length - 1) (by omega)
    have HC := Lib.hid hcell; clear hcell
    clear h hb
    rw [Nat.add_zero] at x0
    go_enter Tryd.func35, Tryd.ntmps35
    go_wp2_with (go_at_call 44; (with_reducible refine (isWithin_is h1 _).mono ?_); rintro e w' ⟨rfl, rfl⟩)
    all_goals first
      | (go_ret
         rw [okP_no (fun k => by have := k.low; have := k.high; omega)]
         exact ⟨rfl, rfl⟩)
      | skip
    go_loop [33] (fun x => ∃ k : Nat, k ≤ xs.length - 1 ∧ x = .int .i64 k ∧ ∀ j : Nat, j < k → ix xs j < ix xs (j + 1)) (fun x => xs.length - (intOf x).toNat)
    case atStart => exact ⟨0, by omega, rfl, fun j hj => by omega⟩
    case round =>
      obtain ⟨k, hk, rfl, hlt⟩ := hrel
      have HL := Lib.hid hlt; clear hlt
      by_cases hk' : k < xs.length - 1
      · have y0 := HC.out k (by omega)
        have y1 := HC.out (k + 1) (by omega)
        rw [show off + (k + 1) = off + 1 + k by omega] at y1
        go_wp2
        · go_ret
          rw [okP_no (fun q => by have := q.inc k (by omega); omega)]
          exact ⟨rfl, rfl⟩
        · go_round
          case rel => exact ⟨k + 1, by omega, by go_num, fun j hj => by rcases (by omega : j < k ∨ j = k) with h | rfl; exact HL.out j h; assumption⟩
          case measure => simp [intOf]; omega
      · go_wp2
        go_ret
        rw [okP_mk ⟨by omega, by omega, by omega, by omega, fun j hj => HL.out j (by omega)⟩]
        exact ⟨rfl, rfl⟩

end Go.Proofs.YtdlmdaononclgaaDoor

/- Valid positions, 2: the reference's rising; CheckPlaces in both. -/
namespace Go.Proofs.YtdlmdaononclgaaDoor
open Go.RowKit
set_option linter.unusedVariables false
set_option linter.unusedSimpArgs false

theorem OkP.lo {many most : Int} {xs : List Int} (h : OkP many most xs) : ∀ j, j < xs.length → 0 ≤ ix xs j := by
  intro j
  induction j with
  | zero => intro _; exact h.low
  | succ j ih => intro hj; have := ih (by omega); have := h.inc j (by omega); omega
theorem OkP.hi {many most : Int} {xs : List Int} (h : OkP many most xs) : ∀ i, i < xs.length → ix xs (xs.length - 1 - i) ≤ most := by
  intro i
  induction i with
  | zero => intro _; exact h.high
  | succ i ih =>
    intro hi
    have a := ih (by omega)
    have b := h.inc (xs.length - 1 - (i + 1)) (by omega)
    rw [show xs.length - 1 - (i + 1) + 1 = xs.length - 1 - i by omega] at b
    omega
theorem OkP.hi' {many most : Int} {xs : List Int} (h : OkP many most xs) (j : Nat) (hj : j < xs.length) : ix xs j ≤ most := by
  have := h.hi (xs.length - 1 - j) (by omega)
  rwa [show xs.length - 1 - (xs.length - 1 - j) = j by omega] at this

set_option maxHeartbeats 2000000 in
theorem rising_any (xs : List Int) (A : Option Addr) (c : Nat) (many most : Int) (w : World) (hc : xs.length ≤ c) (hm : c ≤ 9223372036854775807) {B : Nat} (h : RD w B A (ints xs)) :
    Calls Tryd.prog 37 #[.slice A xs.length c, .int .i64 many, .int .i64 most] w fun e w' => e = .returned (.bool (okP many most xs)) ∧ ∃ k, w' = w.drewN k := by
  by_cases n2 : 2 ≤ xs.length
  · obtain ⟨b, off, rfl, hb, hcell⟩ := h.ints (by omega)
    have HC := Lib.hid hcell; clear hcell
    clear h hb
    go_enter Tryd.func37, Tryd.ntmps37
    go_wp2
    · go_ret
      rw [okP_no (fun k => by have := k.two; have := k.many; omega)]
      exact ⟨rfl, 0, rfl⟩
    · have nm : (xs.length : Int) ≤ many := by omega
      go_loopw [7] (fun x wr => ∃ k q : Nat, k ≤ xs.length ∧ x = .int .i64 k ∧ wr = w.drewN q ∧ (∀ j : Nat, j < k → 0 ≤ ix xs j ∧ ix xs j ≤ most) ∧ ∀ j : Nat, j + 1 < k → ix xs j < ix xs (j + 1)) (fun x _ => xs.length - (intOf x).toNat)
      case atStart => exact ⟨0, 0, by omega, rfl, rfl, fun j hj => by omega, fun j hj => by omega⟩
      case round =>
        obtain ⟨k, q, hk, rfl, rfl, hr, hi⟩ := hrel
        have HR := Lib.hid hr; clear hr
        have HI := Lib.hid hi; clear hi
        by_cases hk' : k < xs.length
        · have y0 := HC.out k hk'
          by_cases c0 : ix xs k < 0
          · have d0 : decide (ix xs k < 0) = true := decide_eq_true c0
            go_wp2
            go_quiet (fail)
            go_wp2
            go_ret
            rw [okP_no (fun p => by have := p.lo k hk'; omega)]
            exact ⟨rfl, q + nq, by first | rfl | rw [World.drewN_drewN]⟩
          have d0 : decide (ix xs k < 0) = false := decide_eq_false c0
          by_cases c1 : most < ix xs k
          · have d1 : decide (most < ix xs k) = true := decide_eq_true c1
            go_wp2
            go_quiet (fail)
            go_wp2
            go_ret
            rw [okP_no (fun p => by have := p.hi' k hk'; omega)]
            exact ⟨rfl, q + nq, by first | rfl | rw [World.drewN_drewN]⟩
          have d1 : decide (most < ix xs k) = false := decide_eq_false c1
          by_cases c2 : k = 0
          · have d2 : decide (0 < (k : Int)) = false := decide_eq_false (by omega)
            have d5 : decide (0 < k) = false := decide_eq_false (by omega)
            have C2 := Lib.hid c2; clear c2
            go_wp2
            go_quiet (fail)
            go_wp2
            go_roundw
            case rel => have c2 := C2.out; exact ⟨k + 1, q + nq, by omega, by go_num, by first | rfl | rw [World.drewN_drewN], fun j hj => (by have e : j = k := (by omega); rw [e]; omega), fun j hj => by omega⟩
            case measure => simp [intOf]; omega
          · obtain ⟨m, rfl⟩ : ∃ m, k = m + 1 := ⟨k - 1, by omega⟩
            have d2 : decide (0 < ((m + 1 : Nat) : Int)) = true := decide_eq_true (by omega)
            have d3 : decide (0 < (m : Int) + 1) = true := decide_eq_true (by omega)
            have d5 : decide (0 < m + 1) = true := decide_eq_true (by omega)
            have y1 := HC.out m (by omega)
            by_cases c3 : ix xs (m + 1) ≤ ix xs m
            · have d4 : decide (ix xs (m + 1) ≤ ix xs m) = true := decide_eq_true c3
              go_wp2
              go_quiet (fail)
              go_wp2
              go_ret
              rw [okP_no (fun p => by have := p.inc m (by omega); omega)]
              exact ⟨rfl, q + nq, by first | rfl | rw [World.drewN_drewN]⟩
            · have d4 : decide (ix xs (m + 1) ≤ ix xs m) = false := decide_eq_false c3
              go_wp2
              go_quiet (fail)
              go_wp2
              go_roundw
              case rel => exact ⟨m + 1 + 1, q + nq, by omega, by go_num, by first | rfl | rw [World.drewN_drewN], fun j hj => (by rcases (by omega : j < m + 1 ∨ j = m + 1) with h | rfl; exact HR.out j h; omega), fun j hj => (by rcases (by omega : j + 1 < m + 1 ∨ j = m) with h | rfl; exact HI.out j h; omega)⟩
              case measure => simp [intOf]; omega
        · go_wp2
          go_ret
          rw [okP_mk ⟨by omega, by omega, (HR.out 0 (by omega)).1, (HR.out (xs.length - 1) (by omega)).2, fun j hj => HI.out j (by omega)⟩]
          exact ⟨rfl, q, rfl⟩
  · rw [okP_no (fun k => by have := k.two; omega)]
    go_enter Tryd.func37, Tryd.ntmps37
    go_wp2
    go_ret
    exact ⟨rfl, 0, rfl⟩

end Go.Proofs.YtdlmdaononclgaaDoor

/- CheckPlaces, ContainsFunc, checkOrdinates, in both. -/
namespace Go.Proofs.YtdlmdaononclgaaDoor
open Go.RowKit
set_option linter.unusedVariables false
set_option linter.unusedSimpArgs false

theorem arePlaces_is {xs : List Int} {many most : Int} {r : Bool} (hr : okP many most xs = r) (A : Option Addr) (c : Nat) (w : World) (hc : xs.length ≤ c) (hm : c ≤ 9223372036854775807) {B : Nat} (h : RD w B A (ints xs)) :
    Calls Tryd.prog 35 #[.slice A xs.length c, .int .i64 many, .int .i64 most] w fun e w' => e = .returned (.bool r) ∧ w = w' := by
  subst hr; exact arePlaces_any xs A c many most w hc hm h
theorem rising_is {xs : List Int} {many most : Int} {r : Bool} (hr : okP many most xs = r) (A : Option Addr) (c : Nat) (w : World) (hc : xs.length ≤ c) (hm : c ≤ 9223372036854775807) {B : Nat} (h : RD w B A (ints xs)) :
    Calls Tryd.prog 37 #[.slice A xs.length c, .int .i64 many, .int .i64 most] w fun e w' => e = .returned (.bool r) ∧ ∃ k, w' = w.drewN k := by
  subst hr; exact rising_any xs A c many most w hc hm h

theorem CheckPlaces_yes {xs : List Int} (hr : okP 9 100000 xs = true) (A : Option Addr) (c : Nat) (w : World) (hc : xs.length ≤ c) (hm : c ≤ 9223372036854775807) {B : Nat} (h : RD w B A (ints xs)) :
    Calls Tryd.prog 54 #[.slice A xs.length c] w fun e w' => e = .returned (.int .i64 0) ∧ w = w' := by
  go_enter Tryd.func54, Tryd.ntmps54
  go_wp2_with (go_at_call 35; (with_reducible refine (arePlaces_is hr A c _ hc hm h).mono ?_); rintro e w' ⟨rfl, rfl⟩)
  go_ret
  exact ⟨rfl, rfl⟩
theorem CheckPlaces_no {xs : List Int} (hr : okP 9 100000 xs = false) (A : Option Addr) (c : Nat) (w : World) (hc : xs.length ≤ c) (hm : c ≤ 9223372036854775807) {B : Nat} (h : RD w B A (ints xs)) :
    Calls Tryd.prog 54 #[.slice A xs.length c] w fun e w' => e = .returned (.int .i64 12) ∧ w = w' := by
  go_enter Tryd.func54, Tryd.ntmps54
  go_wp2_with (go_at_call 35; (with_reducible refine (arePlaces_is hr A c _ hc hm h).mono ?_); rintro e w' ⟨rfl, rfl⟩)
  go_ret
  exact ⟨rfl, rfl⟩
/-- a predicate that only computes. -/
def Pred (g : Nat) (p : Int → Bool) : Prop := ∀ (x : Int) (W : World), Calls Tryd.prog g #[.int .i64 x] W fun e w' => e = .returned (.bool (p x)) ∧ W = w'

theorem Pred.at {g : Nat} {p : Int → Bool} (h : Pred g p) {x : Int} {b : Bool} (hq : p x = b) (W : World) : Calls Tryd.prog g #[.int .i64 x] W fun e w' => e = .returned (.bool b) ∧ W = w' := by
  subst hq; exact h x W

/-- does p hold of some element? -/
def anyB (p : Int → Bool) (xs : List Int) : Bool := xs.any p
theorem anyB_no {p : Int → Bool} {xs : List Int} (h : ∀ j, j < xs.length → p (ix xs j) = false) : anyB p xs = false := by
  rw [anyB, List.any_eq_false]
  intro x hx
  obtain ⟨j, hj, rfl⟩ := List.getElem_of_mem hx
  have := h j hj
  simp only [ix, List.getD, List.getElem?_eq_getElem hj, Option.getD_some] at this
  simp [this]
theorem anyB_yes {p : Int → Bool} {xs : List Int} (j : Nat) (hj : j < xs.length) (h : p (ix xs j) = true) : anyB p xs = true := by
  rw [anyB, List.any_eq_true]
  refine ⟨xs[j], List.getElem_mem hj, ?_⟩
  simpa only [ix, List.getD, List.getElem?_eq_getElem hj, Option.getD_some] using h

/-- what IndexFunc answers: an index, at which p holds; -1 if there is none. -/
def IdxPost (p : Int → Bool) (xs : List Int) (w : World) (e : Ending) (w' : World) : Prop :=
  ∃ i : Int, e = .returned (.int .i64 i) ∧ w = w' ∧ decide (0 ≤ i) = anyB p xs

set_option maxHeartbeats 1000000 in
theorem IndexFunc_any (g : Nat) (eg : ∀ args w, (callFunc g args).run Tryd.prog w = .ok (.enter g args) w) (p : Int → Bool) (hp : Pred g p) (xs : List Int) (A : Option Addr) (c : Nat) (w : World) (hc : xs.length ≤ c) (hm : c ≤ 9223372036854775807) {B : Nat} (h : RD w B A (ints xs)) :
    Calls Tryd.prog 62 #[.slice A xs.length c, .func (.func g) #[] #[]] w (IdxPost p xs w) := by
  have HP := Lib.hid hp; clear hp
  have HR := Lib.hid h; clear h
  go_enter Tryd.func62, Tryd.ntmps62
  go_wp2
  go_loop [8] (fun x => ∃ k : Nat, k ≤ xs.length ∧ x = .int .i64 k ∧ ∀ j : Nat, j < k → p (ix xs j) = false) (fun x => xs.length - (intOf x).toNat)
  case atStart => exact ⟨0, by omega, rfl, fun j hj => by omega⟩
  case round =>
    obtain ⟨k, hk, rfl, hlt⟩ := hrel
    have HL := Lib.hid hlt; clear hlt
    by_cases hk' : k < xs.length
    · obtain ⟨b, off, rfl, hb, hcell⟩ := HR.out.ints (by omega)
      have y0 := hcell k (by omega)
      clear hcell
      cases hq : p (ix xs k) with
      | true =>
        have HQ := Lib.hid hq
        go_wp2_with (go_at_fn g; (with_reducible refine (Pred.at HP.out HQ.out _).mono ?_); rintro e w' ⟨rfl, rfl⟩)
        go_ret
        exact ⟨k, rfl, rfl, by rw [anyB_yes k hk' HQ.out]; exact decide_eq_true (by omega)⟩
      | false =>
        have HQ := Lib.hid hq
        go_wp2_with (go_at_fn g; (with_reducible refine (Pred.at HP.out HQ.out _).mono ?_); rintro e w' ⟨rfl, rfl⟩)
        go_round
        case rel => exact ⟨k + 1, by omega, by go_num, fun j hj => (by rcases (by omega : j < k ∨ j = k) with h | rfl; exact HL.out j h; exact HQ.out)⟩
        case measure => simp [intOf]; omega
    · go_wp2
      go_ret
      exact ⟨-1, rfl, rfl, by rw [anyB_no (fun j hj => HL.out j (by omega))]; rfl⟩

theorem ContainsFunc_is (g : Nat) (eg : ∀ args w, (callFunc g args).run Tryd.prog w = .ok (.enter g args) w) {p : Int → Bool} (hp : Pred g p) {xs : List Int} {r : Bool} (hr : anyB p xs = r) (A : Option Addr) (c : Nat) (w : World) (hc : xs.length ≤ c) (hm : c ≤ 9223372036854775807) {B : Nat} (h : RD w B A (ints xs)) :
    Calls Tryd.prog 42 #[.slice A xs.length c, .func (.func g) #[] #[]] w fun e w' => e = .returned (.bool r) ∧ w = w' := by
  have H := Lib.hid (IndexFunc_any g eg p hp xs A c w hc hm h)
  have HR := Lib.hid hr; clear hr hp h
  go_enter Tryd.func42, Tryd.ntmps42
  go_wp2_with (go_at_call 62; (with_reducible refine H.out.mono ?_); rintro e w' ⟨i, rfl, rfl, hi⟩; have HI := Lib.hid hi; clear hi)
  go_ret
  exact ⟨ret_bool (HI.out.trans HR.out), rfl⟩

end Go.Proofs.YtdlmdaononclgaaDoor

/- A range over a function, by a law of its own: the body says which blocks it may write (Y), and may add blocks that it lays; the iterator keeps those, and its own blocks are kept by the body. -/
namespace Go.Proofs.YtdlmdaononclgaaDoor
open Go.RowKit
set_option linter.unusedVariables false
set_option linter.unusedSimpArgs false

theorem wide_depth {n : Nat} (h : Fence.wide.depth.isSome = true) : 1 ≤ n := by simp [Fence.wide] at h

/-- an iterator's steps: what lay below D, and what is in Y, lies as it lay. -/
structure Keep (D : Nat) (Y : Nat → Prop) (W W' : World) : Prop where
  os : W'.os = W.os
  tape : W'.tape = W.tape
  output : W'.output = W.output
  size : W.heap.size ≤ W'.heap.size
  block : ∀ k, k < W.heap.size → (k < D ∨ Y k) → W'.heap[k]? = W.heap[k]?

theorem Keep.refl (D : Nat) (Y : Nat → Prop) (W : World) : Keep D Y W W := ⟨rfl, rfl, rfl, Nat.le_refl _, fun _ _ _ => rfl⟩
theorem Keep.trans {D : Nat} {Y : Nat → Prop} {A B C : World} (h : Keep D Y A B) (k : Keep D Y B C) : Keep D Y A C :=
  ⟨k.os.trans h.os, k.tape.trans h.tape, k.output.trans h.output, Nat.le_trans h.size k.size, fun i hi hy => (k.block i (Nat.lt_of_lt_of_le hi h.size) hy).trans (h.block i hi hy)⟩
theorem Keep.of_below {D : Nat} {Y : Nat → Prop} {W W' : World} (h : Below W.heap.size W W') : Keep D Y W W' := ⟨h.os, h.tape, h.output, h.size, fun k hk _ => h.block k hk⟩
theorem Keep.alloc {D : Nat} {Y : Nat → Prop} {A W : World} (h : Keep D Y A W) (o : Obj) : Keep D Y A (W.alloc o) := h.trans (Keep.of_below ((Below.refl _ W).alloc (Nat.le_refl _) o))
theorem Keep.drewN {D : Nat} {Y : Nat → Prop} {A W : World} (h : Keep D Y A W) (n : Nat) : Keep D Y A (W.drewN n) := ⟨h.os, h.tape, h.output, h.size, h.block⟩
theorem Keep.setCell {D : Nat} {Y : Nat → Prop} {A W : World} (h : Keep D Y A W) {p : Addr} (hD : D ≤ p.block) (hY : ¬ Y p.block) (v : Value) : Keep D Y A (W.setCell p v) :=
  h.trans ⟨rfl, rfl, rfl, by simp [World.setCell], fun k hk hy => Below.heap_setCell _ _ _ _ (fun e => by subst e; rcases hy with hy | hy; omega; exact hY hy)⟩
theorem Keep.putObj {D : Nat} {Y : Nat → Prop} {A W : World} (h : Keep D Y A W) {l : Nat} (hD : D ≤ l) (hY : ¬ Y l) (o : Obj) : Keep D Y A (W.putObj l o) :=
  h.trans ⟨rfl, rfl, rfl, by simp, fun k hk hy => World.putObj_heap_other (fun e => by subst e; rcases hy with hy | hy; omega; exact hY hy)⟩
theorem Keep.less {D D' : Nat} {Y : Nat → Prop} {W W' : World} (h : Keep D Y W W') (hD : D' ≤ D) : Keep D' Y W W' := ⟨h.os, h.tape, h.output, h.size, fun k hk hy => h.block k hk (by rcases hy with hy | hy; exact .inl (by omega); exact .inr hy)⟩
theorem Keep.below {D B : Nat} {Y : Nat → Prop} {a W W' : World} (h : Keep D Y W W') (hB : B ≤ D) (hb : Below B a W) (hBW : B ≤ W.heap.size) : Below B a W' :=
  hb.trans ⟨h.os, h.tape, h.output, h.size, fun k hk => h.block k (by omega) (.inl (by omega))⟩
theorem Keep.cell {D : Nat} {Y : Nat → Prop} {W W' : World} (h : Keep D Y W W') {p : Addr} (hp : p.block < W.heap.size) (hy : p.block < D ∨ Y p.block) : W'.cell? p = W.cell? p := World.cell?_of_block (h.block _ hp hy)

/-- one round's doing: blocks that were there and are not in Y lie as they lay; Y' holds blocks of Y and new ones. -/
structure Round (Y Y' : Nat → Prop) (W W' : World) : Prop where
  os : W'.os = W.os
  tape : W'.tape = W.tape
  output : W'.output = W.output
  size : W.heap.size ≤ W'.heap.size
  block : ∀ k, k < W.heap.size → ¬ Y k → W'.heap[k]? = W.heap[k]?
  more : ∀ k, Y' k → Y k ∨ W.heap.size ≤ k
  lt : ∀ k, Y' k → k < W'.heap.size

theorem Round.refl {Y : Nat → Prop} {W : World} (h : ∀ k, Y k → k < W.heap.size) : Round Y Y W W := ⟨rfl, rfl, rfl, Nat.le_refl _, fun _ _ _ => rfl, fun _ h => .inl h, h⟩
theorem Round.of_below {Y : Nat → Prop} {W W' : World} (hY : ∀ k, Y k → k < W.heap.size) (h : Below W.heap.size W W') : Round Y Y W W' :=
  ⟨h.os, h.tape, h.output, h.size, fun k hk _ => h.block k hk, fun _ h => .inl h, fun k hk => Nat.lt_of_lt_of_le (hY k hk) h.size⟩
theorem Round.trans {Y Y' Y'' : Nat → Prop} {A B C : World} (h : Round Y Y' A B) (k : Round Y' Y'' B C) : Round Y Y'' A C :=
  ⟨k.os.trans h.os, k.tape.trans h.tape, k.output.trans h.output, Nat.le_trans h.size k.size,
   fun i hi hy => (k.block i (Nat.lt_of_lt_of_le hi h.size) (fun hy' => by rcases h.more i hy' with x | x; exact hy x; omega)).trans (h.block i hi hy),
   fun i hi => by rcases k.more i hi with x | x; (exact h.more i x); (right; have := h.size; omega), k.lt⟩
theorem Round.cell {Y Y' : Nat → Prop} {W W' : World} (h : Round Y Y' W W') {p : Addr} (hp : p.block < W.heap.size) (hy : ¬ Y p.block) : W'.cell? p = W.cell? p := World.cell?_of_block (h.block _ hp hy)
/-- a block that is not in Y (and was there) is not in Y'. -/
theorem Round.out {Y Y' : Nat → Prop} {W W' : World} (h : Round Y Y' W W') {k : Nat} (hk : k < W.heap.size) (hy : ¬ Y k) : ¬ Y' k := fun hy' => by rcases h.more k hy' with x | x; exact hy x; omega

/-- Y, and the loop's own record l. -/
def orL (Y : Nat → Prop) (l : Nat) (k : Nat) : Prop := Y k ∨ k = l

/-- THE ITERATOR's CONTRACT: it yields just ys, from a world in which H holds (of its captured data, at a Y that spares them). -/
def Yields {α : Type} (F : Fence) (n : Nat) (P : Program) (g : Nat) (lb : Array Value) (encs : α → Array Value) (ys : List α) (H : (Nat → Prop) → World → Prop) : Prop :=
  ∀ (l : Nat) (J Jx : Nat → (Nat → Prop) → World → Prop) (Y : Nat → Prop) (W : World),
    (∀ i Y A B, J i Y A → Keep W.heap.size Y A B → J i Y B) → (∀ i Y A B, Jx i Y A → Keep W.heap.size Y A B → Jx i Y B) →
    (∀ i x Y A, ys[i]? = some x → J i Y A → (∀ k, Y k → k < A.heap.size) → YieldAt F (n - 1) P l (encs x) A fun e B =>
      (e = .returned (.bool true) ∧ ∃ Y', J (i + 1) Y' B ∧ Round (orL Y l) (orL Y' l) A B) ∨ (e = .returned (.bool false) ∧ ∃ Y', Jx (i + 1) Y' B)) →
    (∀ k, Y k → k < W.heap.size) → l < W.heap.size → H (orL Y l) W → J 0 Y W →
    CallsIn F n P g (#[.func (.yield l) #[] #[]] ++ lb) W fun e W' => (∃ v, e = .returned v) ∧ ((∃ Y', J ys.length Y' W') ∨ (∃ i Y', Jx i Y' W'))

/-- how a round's body may be left. -/
def bodyY (I Ix : Nat → (Nat → Prop) → World → Prop) (Ixc : Code → Nat → (Nat → Prop) → World → Prop) (i : Nat) (Y : Nat → Prop) (W : World) : Exit → Act → World → Prop
  | .normal, _, W' => ∃ Y', I (i + 1) Y' W' ∧ Round Y Y' W W'
  | .ret, _, W' => ∃ Y', Ixc .ret (i + 1) Y' W' ∧ Round Y Y' W W'
  | .exit id, _, W' => ∃ Y', Ixc (.exit id) (i + 1) Y' W' ∧ Round Y Y' W W'
  | .goto t, _, W' => ∃ Y', Ixc (.goto t) (i + 1) Y' W' ∧ Round Y Y' W W'
  | .panic _, _, _ => False
  | .outgrown, _, _ => False

variable {F : Fence} {n : Nat} {P : Program}

theorem rangeY {α : Type} {g : Operand} {ps : Array Tmp} {assign body : Code} {Q : Exit → Act → World → Prop} {a : Act} {w : World}
    (hro : F.round = none) (h1 : 1 ≤ n) {gf : Nat} {lb : Array Value} (hg : a.eval g = .func (.func gf) #[] lb) (hFg : F.fn gf) (eg : ∀ args w, (callFunc gf args).run P w = .ok (.enter gf args) w)
    {encs : α → Array Value} {ys : List α} {H : (Nat → Prop) → World → Prop} (hseq : Yields F (n - 1) P gf lb encs ys H) (hps : ∀ x, (encs x).size = ps.size)
    (I : Nat → (Nat → Prop) → World → Prop) (Ix : Code → Nat → (Nat → Prop) → World → Prop) (Y0 : Nat → Prop) (hY0 : ∀ k, Y0 k → k < w.heap.size)
    (hI : ∀ i Y A B, I i Y A → Keep w.heap.size Y A B → I i Y B) (hIx : ∀ c i Y A B, Ix c i Y A → Keep w.heap.size Y A B → Ix c i Y B)
    (h0 : I 0 Y0 w) (hH : ∀ W Z, Below w.heap.size w W → (∀ k, Z k → Y0 k ∨ w.heap.size ≤ k) → H Z W)
    (Ax : α → Act → World → Prop) (hAx : ∀ x a' A B, Ax x a' A → (∀ k, k < A.heap.size → (∃ c e f, A.heap[k]? = some (.cells c e f)) → B.heap[k]? = A.heap[k]?) → Ax x a' B)
    (hassign : ∀ (l i : Nat) (x : α) (Y : Nat → Prop) (W : World) (K : Act → World → Prop), ys[i]? = some x → I i Y W → (∀ k, Y k → k < W.heap.size) →
      (∀ a' W', Below W.heap.size W W' → Ax x a' W' → K a' W') →
      assign.wpIn (F.inRound l) (n - 1 - 1) P (Exit.then K (fun _ _ _ => False)) { tmps := (ps.zip (encs x)).foldl (fun t (p, v) => t.setIfInBounds p v) a.tmps, defers := [] } W)
    (hbody : ∀ (l i : Nat) (x : α) (a' : Act) (Y : Nat → Prop) (W : World), w.heap.size < l → (∃ r, W.heap[l]? = some (.loop r)) → ys[i]? = some x → I i Y W → (∀ k, Y k → k < W.heap.size) → Ax x a' W →
      body.wpIn (F.inRound l) (n - 1 - 1) P (bodyY I (fun _ _ _ => False) Ix i Y W) a' W)
    (hdone : ∀ (Y : Nat → Prop) (W : World), I ys.length Y W → W.heap[w.heap.size]? = some (.deferred (some [])) → Q .normal { a with defers := { target := .collected w.heap.size, args := #[] } :: a.defers } W)
    (hstop : ∀ (c : Code) (i : Nat) (Y : Nat → Prop) (W : World), Ix c i Y W → W.heap[w.heap.size]? = some (.deferred (some [])) → c.wpIn F n P Q { a with defers := { target := .collected w.heap.size, args := #[] } :: a.defers } W) :
    (Code.rangeFunc g ps assign body).wpIn F n P Q a w := by
  refine wpIn_rangeFunc ?_
  intro fn hfn
  rw [hro]
  obtain ⟨rec, hrec⟩ : ∃ rec : LoopState → Option Code → Loop, rec = fun st pe => { state := st, pending := pe, fn, tmps := a.tmps, params := ps, assign, body, defers := w.heap.size } := ⟨_, rfl⟩
  obtain ⟨W1, hW1⟩ : ∃ W1, (w.alloc (.deferred (some []))).alloc (.loop (rec .ready none)) = W1 := ⟨_, rfl⟩
  have hL1 : W1.heap[w.heap.size + 1]? = some (.loop (rec .ready none)) := by
    rw [← hW1]; have := World.alloc_heap_new (w.alloc (.deferred (some []))) (.loop (rec .ready none)); rwa [World.size_alloc] at this
  have hK1 : W1.heap[w.heap.size]? = some (.deferred (some [])) := by
    rw [← hW1]; exact (Below.heap_alloc _ _ _ (by simp)).trans (World.alloc_heap_new w _)
  have hz1 : W1.heap.size = w.heap.size + 2 := by rw [← hW1]; simp
  have hb1 : Below w.heap.size w W1 := by
    rw [← hW1]; exact (((Below.refl _ w).alloc (Nat.le_refl _) _).alloc (by simp) _)
  have hI1 : I 0 Y0 W1 := hI _ _ _ _ h0 (Keep.of_below hb1)
  refine ⟨w.heap.size + 1, [{ target := .collected w.heap.size, args := #[] }], W1, { target := .fn (.func gf) lb, args := #[.func (.yield (w.heap.size + 1)) #[] #[]] }, W1, gf,
    #[.func (.yield (w.heap.size + 1)) #[] #[]] ++ lb, W1, ?_, ?_, ?_, ?_, fun _ => h1, ?_⟩
  · rw [← hW1, hrec]; exact run_enterLoop_outer _ _ _ _ _
  · simp only [resolve, hg]
    simp [go_sem]
  · intro f' hf'; simp [Target.leads] at hf'; subst hf'; exact hFg
  · simp [invoke, go_sem, eg]
  · -- the iterator's contract, at the caller's invariant, the two facts of book-keeping beside it
    have keepW : ∀ {Y : Nat → Prop} {A B : World}, Keep W1.heap.size Y A B → Keep w.heap.size Y A B := fun h => h.less (by omega)
    refine (hseq (w.heap.size + 1)
      (fun i Y W => I i Y W ∧ (¬ Y w.heap.size ∧ ¬ Y (w.heap.size + 1)) ∧ W.heap[w.heap.size + 1]? = some (.loop (rec .ready none)) ∧ W.heap[w.heap.size]? = some (.deferred (some [])))
      (fun i Y W => ∃ c, Ix c i Y W ∧ (¬ Y w.heap.size ∧ ¬ Y (w.heap.size + 1)) ∧ W.heap[w.heap.size + 1]? = some (.loop (rec .done (some c))) ∧ W.heap[w.heap.size]? = some (.deferred (some [])))
      Y0 W1
      (fun i Y A B hs hk => ⟨hI _ _ _ _ hs.1 (keepW hk), hs.2.1, (hk.block _ (Array.getElem?_eq_some_iff.1 hs.2.2.1).1 (.inl (by omega))).trans hs.2.2.1, (hk.block _ (Array.getElem?_eq_some_iff.1 hs.2.2.2).1 (.inl (by omega))).trans hs.2.2.2⟩)
      (fun i Y A B hs hk => by
        obtain ⟨c, hc, hy, hl, hd⟩ := hs
        exact ⟨c, hIx _ _ _ _ _ hc (keepW hk), hy, (hk.block _ (Array.getElem?_eq_some_iff.1 hl).1 (.inl (by omega))).trans hl, (hk.block _ (Array.getElem?_eq_some_iff.1 hd).1 (.inl (by omega))).trans hd⟩)
      ?_ (fun k hk => by have := hY0 k hk; omega) (by omega) (hH W1 _ hb1 (fun k hk => by rcases hk with h | h; exact .inl h; right; omega)) ⟨hI1, ⟨fun h => by have := hY0 _ h; omega, fun h => by have := hY0 _ h; omega⟩, hL1, hK1⟩).mono ?_
    · -- one round
      rintro i x Y W hx ⟨hi, ⟨hy0, hy1⟩, hl, hk⟩ hlt0
      have hlt : w.heap.size + 1 < W.heap.size := (Array.getElem?_eq_some_iff.1 hl).1
      have hy := run_yield (P := P) (args := encs x) hl (by rw [hrec]; exact hps x)
      rw [hrec] at hy
      refine ⟨fn, _, assign, body, hy, roundIn_of_wpIn hfn (hassign _ i x Y W _ hx hi hlt0 ?_)⟩
      clear hy
      intro a' Wa hba hax
      have hla : Wa.heap[w.heap.size + 1]? = some (.loop (rec .ready none)) := (hba.block _ hlt).trans hl
      have hka : Wa.heap[w.heap.size]? = some (.deferred (some [])) := (hba.block _ (by omega)).trans hk
      have hlta : w.heap.size + 1 < Wa.heap.size := Nat.lt_of_lt_of_le hlt hba.size
      refine ⟨_, run_beginRound hla (by rw [hrec]), ?_⟩
      obtain ⟨Wb, hWb⟩ : ∃ Wb, Wa.putObj (w.heap.size + 1) (.loop { rec .ready none with state := .busy }) = Wb := ⟨_, rfl⟩
      have hl2 : Wb.heap[w.heap.size + 1]? = some (.loop { rec .ready none with state := .busy }) := by rw [← hWb]; exact World.putObj_heap_same hlta
      have hk2 : Wb.heap[w.heap.size]? = some (.deferred (some [])) := by rw [← hWb]; exact (World.putObj_heap_other (by omega)).trans hka
      have hsb : Wb.heap.size = Wa.heap.size := by rw [← hWb]; simp
      have kb : Keep w.heap.size Y W Wb := by rw [← hWb]; exact (Keep.of_below hba).putObj (by omega) hy1 _
      have hib : I i Y Wb := hI _ _ _ _ hi kb
      have haxb : Ax x a' Wb := hAx _ _ _ _ hax (fun k hk ⟨c, e, f, hc⟩ => by rw [← hWb]; exact World.putObj_heap_other (fun e' => by subst e'; rw [hla] at hc; cases hc))
      have hltb : ∀ k, Y k → k < Wb.heap.size := fun k hk => by have := hlt0 k hk; have := hba.size; omega
      rw [hWb]
      refine wpIn_mono (hbody _ i x a' Y Wb (by omega) ⟨_, hl2⟩ hx hib hltb haxb) ?_
      have fin : ∀ (jump : Option Code) (Y' : Nat → Prop) (W3 : World), Round Y Y' Wb W3 →
          (Instr.endRound (w.heap.size + 1) jump).run P W3 = .ok (.bool jump.isNone) (W3.putObj (w.heap.size + 1) (.loop (rec (if jump.isNone then .ready else .done) jump))) ∧
          (W3.putObj (w.heap.size + 1) (.loop (rec (if jump.isNone then .ready else .done) jump))).heap[w.heap.size + 1]? = some (.loop (rec (if jump.isNone then .ready else .done) jump)) ∧
          (W3.putObj (w.heap.size + 1) (.loop (rec (if jump.isNone then .ready else .done) jump))).heap[w.heap.size]? = some (.deferred (some [])) ∧
          Keep w.heap.size Y' W3 (W3.putObj (w.heap.size + 1) (.loop (rec (if jump.isNone then .ready else .done) jump))) ∧ (¬ Y' w.heap.size ∧ ¬ Y' (w.heap.size + 1)) := fun jump Y' W3 hr3 => by
        have hl3 := (hr3.block _ (by omega) hy1).trans hl2
        have hk3 := (hr3.block _ (by omega) hy0).trans hk2
        have o1 : ¬ Y' (w.heap.size + 1) := hr3.out (by omega) hy1
        have := run_endRound (P := P) jump hl3
        rw [hrec] at this ⊢
        exact ⟨this, World.putObj_heap_same (Array.getElem?_eq_some_iff.1 hl3).1, (World.putObj_heap_other (by omega)).trans hk3, (Keep.refl _ _ _).putObj (by omega) o1 _, hr3.out (by omega) hy0, o1⟩
      rintro e a3 W3 hp
      cases e with
      | normal =>
        obtain ⟨Y', hi3, hr3⟩ := hp
        obtain ⟨hr, hl4, hk4, hkp, ho⟩ := fin none Y' W3 hr3
        refine ⟨_, _, hr, .inl ⟨rfl, Y', ⟨hI _ _ _ _ hi3 hkp, ho, hl4, hk4⟩, ?_⟩⟩
        refine ⟨hr3.os.trans kb.os, hr3.tape.trans kb.tape, hr3.output.trans kb.output, ?_, fun k hk hnk => ?_, fun k hk => ?_, fun k hk => ?_⟩
        · have := hr3.size; have := kb.size; simp; omega
        · have hs := kb.size
          have hne : k ≠ w.heap.size + 1 := fun e => hnk (.inr e)
          have hny : ¬ Y k := fun h => hnk (.inl h)
          rw [World.putObj_heap_other hne, hr3.block k (by omega) hny, ← hWb, World.putObj_heap_other hne]
          exact hba.block k hk
        · rcases hk with hk | hk
          · rcases hr3.more k hk with h | h
            · exact .inl (.inl h)
            · right; have := kb.size; omega
          · exact .inl (.inr hk)
        · rcases hk with hk | hk
          · have := hr3.lt k hk; simpa using this
          · have := hr3.size; have := kb.size; subst hk; simp; omega
      | ret =>
        obtain ⟨Y', hi3, hr3⟩ := hp
        obtain ⟨hr, hl4, hk4, hkp, ho⟩ := fin (some .ret) Y' W3 hr3
        exact ⟨_, _, hr, .inr ⟨rfl, Y', .ret, hIx _ _ _ _ _ hi3 hkp, ho, hl4, hk4⟩⟩
      | exit id =>
        obtain ⟨Y', hi3, hr3⟩ := hp
        obtain ⟨hr, hl4, hk4, hkp, ho⟩ := fin (some (.exit id)) Y' W3 hr3
        exact ⟨_, _, hr, .inr ⟨rfl, Y', .exit id, hIx _ _ _ _ _ hi3 hkp, ho, hl4, hk4⟩⟩
      | goto t =>
        obtain ⟨Y', hi3, hr3⟩ := hp
        obtain ⟨hr, hl4, hk4, hkp, ho⟩ := fin (some (.goto t)) Y' W3 hr3
        exact ⟨_, _, hr, .inr ⟨rfl, Y', .goto t, hIx _ _ _ _ _ hi3 hkp, ho, hl4, hk4⟩⟩
      | panic ch => exact hp.elim
      | outgrown => exact hp.elim
    · -- behind the iterator
      rintro e W2 ⟨⟨v, rfl⟩, (⟨Y', hi, hy, hl, hk⟩ | ⟨i, Y', c, hi, hy, hl, hk⟩)⟩
      · exact ⟨none, _, by have := run_endLoop (P := P) hl (by rw [hrec]; simp); rw [hrec] at this; exact this, hdone Y' _ (hI _ _ _ _ hi ((Keep.refl _ _ _).putObj (by omega) hy.2 _)) ((World.putObj_heap_other (by omega)).trans hk)⟩
      · exact ⟨some c, _, by have := run_endLoop (P := P) hl (by rw [hrec]; simp); rw [hrec] at this; exact this, hstop c i Y' _ (hIx _ _ _ _ _ hi ((Keep.refl _ _ _).putObj (by omega) hy.2 _)) ((World.putObj_heap_other (by omega)).trans hk)⟩

end Go.Proofs.YtdlmdaononclgaaDoor

/- A region that draws its order, within a round of a range over a function. -/
namespace Go.Proofs.YtdlmdaononclgaaDoor
open Go.RowKit
set_option linter.unusedVariables false
set_option linter.unusedSimpArgs false

/-- no 'defer' statement among the operations. -/
def noDefer (l : List Oper) : Bool := l.all fun o => match o.op with | .defer _ => false | _ => true
theorem noDefer_spec {l : List Oper} (h : noDefer l = true) {i : Nat} {o : Oper} (ho : l[i]? = some o) : ∀ c, o.op ≠ .defer c := by
  intro c hc
  have := List.all_eq_true.1 h o (List.mem_of_getElem? ho)
  rw [hc] at this
  cases this

variable {F : Fence} {n : Nat} {P : Program}

theorem opIn_round {ops : Array Oper} {Q : Exit → Act → World → Prop} (L : Nat) (hro : F.round = none) (hd : noDefer ops.toList = true) {i : Nat} {K : Act → World → Prop} {a : Act} {w : World}
    (h : wpOpIn F n P ops Q i K a w) : wpOpIn (F.inRound L) n P ops Q i K a w := by
  unfold wpOpIn at h ⊢
  cases ho : ops[i]? with
  | none => simp only [ho] at h ⊢; exact h
  | some o =>
    simp only [ho] at h ⊢
    by_cases hw : Region.wanted o (yielded ops a.tmps) = true
    · simp only [hw, if_true] at h ⊢
      have hnd := noDefer_spec hd (i := i) (o := o) (by simpa using ho)
      refine ⟨h.1, ?_⟩
      have h2 := h.2
      rw [Oper.semAt_eq _ _ _ hnd] at h2 ⊢
      exact h2
    · simp only [hw, if_false, Bool.false_eq_true] at h ⊢
      exact h

theorem anyIn_round {md : Region.Mode} {ops : Array Oper} {Q : Exit → Act → World → Prop} (L : Nat) (hro : F.round = none) (hd : noDefer ops.toList = true) : ∀ (fuel : Nat) (listed : Array Bool) (a : Act) (w : World),
    wpAnyIn F n P md ops Q fuel listed a w → wpAnyIn (F.inRound L) n P md ops Q fuel listed a w
  | 0, _, _, _, h => h
  | fuel + 1, listed, a, w, h => ⟨h.1, fun i hi => opIn_round L hro hd (wpOpIn_mono (fun a w => anyIn_round L hro hd fuel _ a w) (h.2 i hi))⟩

/-- ONE WALK OF THE LEXICAL ORDER SERVES EVERY ORDER, in a round too. -/
theorem region_quiet_round {id : Nat} {Q : Exit → Act → World → Prop} {a : Act} {w : World} {l : List Oper} (L : Nat) (hm : P.follows .mixedOrders = true) (hB : Region.lexB .any l.toArray = true) (hd : noDefer l = true)
    (h : wpQuietIn Fence.wide n P l.toArray (fun w' => ∃ n, w' = w.drewN n) (fun a' => ∀ w', (∃ n, w' = w.drewN n) → Q .normal a' w') l a) : (Code.region id l.toArray true).wpIn (Fence.wide.inRound L) n P Q a w := by
  have hB' := hB
  simp only [Region.lexB, Bool.and_eq_true] at hB
  refine wpIn_region_any hm (anyIn_round L rfl (by simpa using hd) _ _ _ _ (wpAnyIn_of_quiet (F := Fence.wide) (C := fun w' => ∃ n, w' = w.drewN n) (Q := fun a' => ∀ w', (∃ n, w' = w.drewN n) → Q .normal a' w') rfl (fun _ w' hw' h => h w' hw') _ _ _ _ ⟨1, rfl⟩ ?_))
  have := wpAnyQIn_lex (F := Fence.wide) (n := n) (P := P) (C := fun w' => ∃ n, w' = w.drewN n) (md := .any) hB.1 l 0 (Array.replicate l.toArray.size false) a (by simp) (by simpa using hB.2) h
  simpa using this

end Go.Proofs.YtdlmdaononclgaaDoor

/- A range over a function whose values name cells that the function itself has laid: as in Range, with a relation between what is yielded and the world. -/
namespace Go.Proofs.YtdlmdaononclgaaDoor
open Go.RowKit
set_option linter.unusedVariables false
set_option linter.unusedSimpArgs false

/-- THE ITERATOR's CONTRACT, where what is yielded names cells of its own: it yields just ys, from a world in which H holds (of its captured data, at a Y that spares them). -/
def YieldsE {α : Type} (F : Fence) (n : Nat) (P : Program) (g : Nat) (lb : Array Value) (E : α → World → Array Value → Prop) (ys : List α) (H : (Nat → Prop) → World → Prop) : Prop :=
  ∀ (l : Nat) (J Jx : Nat → (Nat → Prop) → World → Prop) (Y : Nat → Prop) (W : World),
    (∀ i Y A B, J i Y A → Keep W.heap.size Y A B → J i Y B) → (∀ i Y A B, Jx i Y A → Keep W.heap.size Y A B → Jx i Y B) →
    (∀ i x Y A vs, ys[i]? = some x → J i Y A → (∀ k, Y k → k < A.heap.size) → E x A vs → YieldAt F (n - 1) P l vs A fun e B =>
      (e = .returned (.bool true) ∧ ∃ Y', J (i + 1) Y' B ∧ Round (orL Y l) (orL Y' l) A B) ∨ (e = .returned (.bool false) ∧ ∃ Y', Jx (i + 1) Y' B)) →
    (∀ k, Y k → k < W.heap.size) → l < W.heap.size → H (orL Y l) W → J 0 Y W →
    CallsIn F n P g (#[.func (.yield l) #[] #[]] ++ lb) W fun e W' => (∃ v, e = .returned v) ∧ ((∃ Y', J ys.length Y' W') ∨ (∃ i Y', Jx i Y' W'))

variable {F : Fence} {n : Nat} {P : Program}

/-- an operation of a plain walk is one of a walk within the widest fence, if no ending but the plain one is allowed. -/
theorem opIn_of_op {ops : Array Oper} {Q : Exit → Act → World → Prop} (hQ : ¬ LetsOut Q) {i : Nat} {K : Act → World → Prop} {a : Act} {w : World}
    (h : wpOp P ops Q i K a w) : wpOpIn Fence.wide n P ops Q i K a w := by
  unfold wpOp at h
  unfold wpOpIn
  cases ho : ops[i]? with
  | none => simp only [ho] at h ⊢; exact h
  | some o =>
    simp only [ho] at h ⊢
    by_cases hw : Region.wanted o (yielded ops a.tmps) = true
    · simp only [hw, if_true] at h ⊢
      rcases h with h | h
      · refine ⟨fun _ _ => trivial, ?_⟩
        unfold Oper.wp at h
        show o.uponIn Fence.wide n P a K Q ((execOp a.eval o).run P w)
        generalize (execOp a.eval o).run P w = r at *
        cases r with
        | ok x w' =>
          cases x <;> simp only [Oper.upon, Oper.uponIn] at h ⊢
          case enter f args => exact ⟨fun h0 => absurd h0 (by simp [Fence.wide]), callsIn_wide.2 h⟩
          case row row args =>
            refine ⟨fun h0 => absurd h0 (by simp [Fence.wide]), fun c cs _ => ?_⟩
            obtain ⟨v, w2, r, s⟩ := h c cs
            exact ⟨v, w2, r, stepsIn_wide.2 s⟩
          all_goals exact h
        | halt x w' => cases x <;> simp only [Oper.upon, Oper.uponIn] at h ⊢ <;> exact h
      · exact absurd h.2 hQ
    · simp only [hw, if_false, Bool.false_eq_true] at h ⊢
      exact ⟨fun _ _ => trivial, h⟩

theorem anyIn_of_any {md : Region.Mode} {ops : Array Oper} {Q : Exit → Act → World → Prop} (hQ : ¬ LetsOut Q) : ∀ (fuel : Nat) (listed : Array Bool) (a : Act) (w : World),
    wpAny P md ops Q fuel listed a w → wpAnyIn Fence.wide n P md ops Q fuel listed a w
  | 0, _, _, _, h => h
  | fuel + 1, listed, a, w, h => ⟨h.1, fun i hi => wpOpIn_mono (fun a w => anyIn_of_any hQ fuel _ a w) (opIn_of_op hQ (h.2 i hi))⟩

/-- a region that draws its order and writes at its end, in a round. -/
theorem region_tail_round {id : Nat} {Q : Exit → Act → World → Prop} {a : Act} {w : World} {l : List Oper} (L : Nat) (k : Nat) (hm : P.follows .mixedOrders = true) (hB : Region.lexTailB .any l.toArray k = true) (hd : noDefer l = true)
    (h : ∀ K : Act → World → Prop, (∀ a w, Q .normal a w → K a w) → wpStill P l.toArray { w with drawn := w.drawn + 1 } (fun a' => wpList P l.toArray (fun e a w => e = .normal ∧ K a w) (l.drop k) a' { w with drawn := w.drawn + 1 }) (l.take k) a) :
    (Code.region id l.toArray true).wpIn (Fence.wide.inRound L) n P Q a w := by
  have h := h (Q .normal) (fun _ _ h => h)
  simp only [Region.lexTailB, Bool.and_eq_true, decide_eq_true_eq] at hB
  obtain ⟨⟨⟨⟨hsel, hn⟩, hs⟩, hc⟩, hlex⟩ := hB
  have hn' : k < l.length := by simpa using hn
  have htl : (l.take k).length = k := by simp; omega
  have hdl : (l.drop k).length = l.toArray.size - k := by simp
  have inv0 : HeadInv .any l.toArray k (Array.replicate l.toArray.size false) :=
    ⟨by simp, fun j oj _ hl => (by rw [getD_replicate_false] at hl; cases hl), fun t _ ht => getD_in (by simpa using ht) (getD_replicate_false _ _)⟩
  have H := wpAnyL_lex (md := .any) (g := l.toArray.size - k) hsel hs hc hn (l.take k) 0 _ a (fun j hj => by
    have hj' : j < k := by rw [htl] at hj; exact hj
    simp [hj']) (by simpa using htl) inv0 (by rw [htl]; exact hlex) h
  have := wpAny_of_head (Q' := fun e a w => e = .normal ∧ Q .normal a w) (g := l.toArray.size - k) (fun listed a' hL => by
    have := wpAny_of_seq (md := .any) (Q' := fun e a w => e = .normal ∧ Q .normal a w) (l.drop k) k listed a' { w with drawn := w.drawn + 1 } (fun j => by simp [List.getElem?_drop]) (by rw [hdl]; exact hL.1) hL.2
    rwa [hdl] at this) _ _ _ H
  rw [htl, show k + (l.toArray.size - k) = l.toArray.size by omega] at this
  have hno : ¬ LetsOut (fun e a w => e = Exit.normal ∧ Q .normal a w) := fun ⟨_, _, h, _⟩ => by cases h
  have h2 := anyIn_round L rfl (by simpa using hd) _ _ _ _ (anyIn_of_any (n := n) hno _ _ _ _ this)
  exact wpIn_mono (wpIn_region_any hm h2) (fun e a w h => by obtain ⟨rfl, h⟩ := h; exact h)

theorem rangeE {α : Type} {g : Operand} {ps : Array Tmp} {assign body : Code} {Q : Exit → Act → World → Prop} {a : Act} {w : World}
    (hro : F.round = none) (h1 : 1 ≤ n) {gf : Nat} {lb : Array Value} (hg : a.eval g = .func (.func gf) #[] lb) (hFg : F.fn gf) (eg : ∀ args w, (callFunc gf args).run P w = .ok (.enter gf args) w)
    {E : α → World → Array Value → Prop} {ys : List α} {H : (Nat → Prop) → World → Prop} (hseq : YieldsE F (n - 1) P gf lb E ys H) (hps : ∀ x W vs, E x W vs → vs.size = ps.size)
    (I : Nat → (Nat → Prop) → World → Prop) (Ix : Code → Nat → (Nat → Prop) → World → Prop) (Y0 : Nat → Prop) (hY0 : ∀ k, Y0 k → k < w.heap.size)
    (hI : ∀ i Y A B, I i Y A → Keep w.heap.size Y A B → I i Y B) (hIx : ∀ c i Y A B, Ix c i Y A → Keep w.heap.size Y A B → Ix c i Y B)
    (h0 : I 0 Y0 w) (hH : ∀ W Z, Below w.heap.size w W → (∀ k, Z k → Y0 k ∨ w.heap.size ≤ k) → H Z W)
    (Ax : α → Act → World → Prop) (hAx : ∀ x a' A B, Ax x a' A → (∀ k, k < A.heap.size → (∃ c e f, A.heap[k]? = some (.cells c e f)) → B.heap[k]? = A.heap[k]?) → Ax x a' B)
    (hassign : ∀ (l i : Nat) (x : α) (Y : Nat → Prop) (W : World) (vs : Array Value) (K : Act → World → Prop), ys[i]? = some x → I i Y W → (∀ k, Y k → k < W.heap.size) → E x W vs →
      (∀ a' W', Below W.heap.size W W' → Ax x a' W' → K a' W') →
      assign.wpIn (F.inRound l) (n - 1 - 1) P (Exit.then K (fun _ _ _ => False)) { tmps := (ps.zip vs).foldl (fun t (p, v) => t.setIfInBounds p v) a.tmps, defers := [] } W)
    (hbody : ∀ (l i : Nat) (x : α) (a' : Act) (Y : Nat → Prop) (W : World), w.heap.size < l → (∃ r, W.heap[l]? = some (.loop r)) → ys[i]? = some x → I i Y W → (∀ k, Y k → k < W.heap.size) → Ax x a' W →
      body.wpIn (F.inRound l) (n - 1 - 1) P (bodyY I (fun _ _ _ => False) Ix i Y W) a' W)
    (hdone : ∀ (Y : Nat → Prop) (W : World), I ys.length Y W → W.heap[w.heap.size]? = some (.deferred (some [])) → Q .normal { a with defers := { target := .collected w.heap.size, args := #[] } :: a.defers } W)
    (hstop : ∀ (c : Code) (i : Nat) (Y : Nat → Prop) (W : World), Ix c i Y W → W.heap[w.heap.size]? = some (.deferred (some [])) → c.wpIn F n P Q { a with defers := { target := .collected w.heap.size, args := #[] } :: a.defers } W) :
    (Code.rangeFunc g ps assign body).wpIn F n P Q a w := by
  refine wpIn_rangeFunc ?_
  intro fn hfn
  rw [hro]
  obtain ⟨rec, hrec⟩ : ∃ rec : LoopState → Option Code → Loop, rec = fun st pe => { state := st, pending := pe, fn, tmps := a.tmps, params := ps, assign, body, defers := w.heap.size } := ⟨_, rfl⟩
  obtain ⟨W1, hW1⟩ : ∃ W1, (w.alloc (.deferred (some []))).alloc (.loop (rec .ready none)) = W1 := ⟨_, rfl⟩
  have hL1 : W1.heap[w.heap.size + 1]? = some (.loop (rec .ready none)) := by
    rw [← hW1]; have := World.alloc_heap_new (w.alloc (.deferred (some []))) (.loop (rec .ready none)); rwa [World.size_alloc] at this
  have hK1 : W1.heap[w.heap.size]? = some (.deferred (some [])) := by
    rw [← hW1]; exact (Below.heap_alloc _ _ _ (by simp)).trans (World.alloc_heap_new w _)
  have hz1 : W1.heap.size = w.heap.size + 2 := by rw [← hW1]; simp
  have hb1 : Below w.heap.size w W1 := by
    rw [← hW1]; exact (((Below.refl _ w).alloc (Nat.le_refl _) _).alloc (by simp) _)
  have hI1 : I 0 Y0 W1 := hI _ _ _ _ h0 (Keep.of_below hb1)
  refine ⟨w.heap.size + 1, [{ target := .collected w.heap.size, args := #[] }], W1, { target := .fn (.func gf) lb, args := #[.func (.yield (w.heap.size + 1)) #[] #[]] }, W1, gf,
    #[.func (.yield (w.heap.size + 1)) #[] #[]] ++ lb, W1, ?_, ?_, ?_, ?_, fun _ => h1, ?_⟩
  · rw [← hW1, hrec]; exact run_enterLoop_outer _ _ _ _ _
  · simp only [resolve, hg]
    simp [go_sem]
  · intro f' hf'; simp [Target.leads] at hf'; subst hf'; exact hFg
  · simp [invoke, go_sem, eg]
  · -- the iterator's contract, at the caller's invariant, the two facts of book-keeping beside it
    have keepW : ∀ {Y : Nat → Prop} {A B : World}, Keep W1.heap.size Y A B → Keep w.heap.size Y A B := fun h => h.less (by omega)
    refine (hseq (w.heap.size + 1)
      (fun i Y W => I i Y W ∧ (¬ Y w.heap.size ∧ ¬ Y (w.heap.size + 1)) ∧ W.heap[w.heap.size + 1]? = some (.loop (rec .ready none)) ∧ W.heap[w.heap.size]? = some (.deferred (some [])))
      (fun i Y W => ∃ c, Ix c i Y W ∧ (¬ Y w.heap.size ∧ ¬ Y (w.heap.size + 1)) ∧ W.heap[w.heap.size + 1]? = some (.loop (rec .done (some c))) ∧ W.heap[w.heap.size]? = some (.deferred (some [])))
      Y0 W1
      (fun i Y A B hs hk => ⟨hI _ _ _ _ hs.1 (keepW hk), hs.2.1, (hk.block _ (Array.getElem?_eq_some_iff.1 hs.2.2.1).1 (.inl (by omega))).trans hs.2.2.1, (hk.block _ (Array.getElem?_eq_some_iff.1 hs.2.2.2).1 (.inl (by omega))).trans hs.2.2.2⟩)
      (fun i Y A B hs hk => by
        obtain ⟨c, hc, hy, hl, hd⟩ := hs
        exact ⟨c, hIx _ _ _ _ _ hc (keepW hk), hy, (hk.block _ (Array.getElem?_eq_some_iff.1 hl).1 (.inl (by omega))).trans hl, (hk.block _ (Array.getElem?_eq_some_iff.1 hd).1 (.inl (by omega))).trans hd⟩)
      ?_ (fun k hk => by have := hY0 k hk; omega) (by omega) (hH W1 _ hb1 (fun k hk => by rcases hk with h | h; exact .inl h; right; omega)) ⟨hI1, ⟨fun h => by have := hY0 _ h; omega, fun h => by have := hY0 _ h; omega⟩, hL1, hK1⟩).mono ?_
    · -- one round
      rintro i x Y W vs hx ⟨hi, ⟨hy0, hy1⟩, hl, hk⟩ hlt0 hE
      have hlt : w.heap.size + 1 < W.heap.size := (Array.getElem?_eq_some_iff.1 hl).1
      have hy := run_yield (P := P) (args := vs) hl (by rw [hrec]; exact hps x W vs hE)
      rw [hrec] at hy
      refine ⟨fn, _, assign, body, hy, roundIn_of_wpIn hfn (hassign _ i x Y W vs _ hx hi hlt0 hE ?_)⟩
      clear hy
      intro a' Wa hba hax
      have hla : Wa.heap[w.heap.size + 1]? = some (.loop (rec .ready none)) := (hba.block _ hlt).trans hl
      have hka : Wa.heap[w.heap.size]? = some (.deferred (some [])) := (hba.block _ (by omega)).trans hk
      have hlta : w.heap.size + 1 < Wa.heap.size := Nat.lt_of_lt_of_le hlt hba.size
      refine ⟨_, run_beginRound hla (by rw [hrec]), ?_⟩
      obtain ⟨Wb, hWb⟩ : ∃ Wb, Wa.putObj (w.heap.size + 1) (.loop { rec .ready none with state := .busy }) = Wb := ⟨_, rfl⟩
      have hl2 : Wb.heap[w.heap.size + 1]? = some (.loop { rec .ready none with state := .busy }) := by rw [← hWb]; exact World.putObj_heap_same hlta
      have hk2 : Wb.heap[w.heap.size]? = some (.deferred (some [])) := by rw [← hWb]; exact (World.putObj_heap_other (by omega)).trans hka
      have hsb : Wb.heap.size = Wa.heap.size := by rw [← hWb]; simp
      have kb : Keep w.heap.size Y W Wb := by rw [← hWb]; exact (Keep.of_below hba).putObj (by omega) hy1 _
      have hib : I i Y Wb := hI _ _ _ _ hi kb
      have haxb : Ax x a' Wb := hAx _ _ _ _ hax (fun k hk ⟨c, e, f, hc⟩ => by rw [← hWb]; exact World.putObj_heap_other (fun e' => by subst e'; rw [hla] at hc; cases hc))
      have hltb : ∀ k, Y k → k < Wb.heap.size := fun k hk => by have := hlt0 k hk; have := hba.size; omega
      rw [hWb]
      refine wpIn_mono (hbody _ i x a' Y Wb (by omega) ⟨_, hl2⟩ hx hib hltb haxb) ?_
      have fin : ∀ (jump : Option Code) (Y' : Nat → Prop) (W3 : World), Round Y Y' Wb W3 →
          (Instr.endRound (w.heap.size + 1) jump).run P W3 = .ok (.bool jump.isNone) (W3.putObj (w.heap.size + 1) (.loop (rec (if jump.isNone then .ready else .done) jump))) ∧
          (W3.putObj (w.heap.size + 1) (.loop (rec (if jump.isNone then .ready else .done) jump))).heap[w.heap.size + 1]? = some (.loop (rec (if jump.isNone then .ready else .done) jump)) ∧
          (W3.putObj (w.heap.size + 1) (.loop (rec (if jump.isNone then .ready else .done) jump))).heap[w.heap.size]? = some (.deferred (some [])) ∧
          Keep w.heap.size Y' W3 (W3.putObj (w.heap.size + 1) (.loop (rec (if jump.isNone then .ready else .done) jump))) ∧ (¬ Y' w.heap.size ∧ ¬ Y' (w.heap.size + 1)) := fun jump Y' W3 hr3 => by
        have hl3 := (hr3.block _ (by omega) hy1).trans hl2
        have hk3 := (hr3.block _ (by omega) hy0).trans hk2
        have o1 : ¬ Y' (w.heap.size + 1) := hr3.out (by omega) hy1
        have := run_endRound (P := P) jump hl3
        rw [hrec] at this ⊢
        exact ⟨this, World.putObj_heap_same (Array.getElem?_eq_some_iff.1 hl3).1, (World.putObj_heap_other (by omega)).trans hk3, (Keep.refl _ _ _).putObj (by omega) o1 _, hr3.out (by omega) hy0, o1⟩
      rintro e a3 W3 hp
      cases e with
      | normal =>
        obtain ⟨Y', hi3, hr3⟩ := hp
        obtain ⟨hr, hl4, hk4, hkp, ho⟩ := fin none Y' W3 hr3
        refine ⟨_, _, hr, .inl ⟨rfl, Y', ⟨hI _ _ _ _ hi3 hkp, ho, hl4, hk4⟩, ?_⟩⟩
        refine ⟨hr3.os.trans kb.os, hr3.tape.trans kb.tape, hr3.output.trans kb.output, ?_, fun k hk hnk => ?_, fun k hk => ?_, fun k hk => ?_⟩
        · have := hr3.size; have := kb.size; simp; omega
        · have hs := kb.size
          have hne : k ≠ w.heap.size + 1 := fun e => hnk (.inr e)
          have hny : ¬ Y k := fun h => hnk (.inl h)
          rw [World.putObj_heap_other hne, hr3.block k (by omega) hny, ← hWb, World.putObj_heap_other hne]
          exact hba.block k hk
        · rcases hk with hk | hk
          · rcases hr3.more k hk with h | h
            · exact .inl (.inl h)
            · right; have := kb.size; omega
          · exact .inl (.inr hk)
        · rcases hk with hk | hk
          · have := hr3.lt k hk; simpa using this
          · have := hr3.size; have := kb.size; subst hk; simp; omega
      | ret =>
        obtain ⟨Y', hi3, hr3⟩ := hp
        obtain ⟨hr, hl4, hk4, hkp, ho⟩ := fin (some .ret) Y' W3 hr3
        exact ⟨_, _, hr, .inr ⟨rfl, Y', .ret, hIx _ _ _ _ _ hi3 hkp, ho, hl4, hk4⟩⟩
      | exit id =>
        obtain ⟨Y', hi3, hr3⟩ := hp
        obtain ⟨hr, hl4, hk4, hkp, ho⟩ := fin (some (.exit id)) Y' W3 hr3
        exact ⟨_, _, hr, .inr ⟨rfl, Y', .exit id, hIx _ _ _ _ _ hi3 hkp, ho, hl4, hk4⟩⟩
      | goto t =>
        obtain ⟨Y', hi3, hr3⟩ := hp
        obtain ⟨hr, hl4, hk4, hkp, ho⟩ := fin (some (.goto t)) Y' W3 hr3
        exact ⟨_, _, hr, .inr ⟨rfl, Y', .goto t, hIx _ _ _ _ _ hi3 hkp, ho, hl4, hk4⟩⟩
      | panic ch => exact hp.elim
      | outgrown => exact hp.elim
    · -- behind the iterator
      rintro e W2 ⟨⟨v, rfl⟩, (⟨Y', hi, hy, hl, hk⟩ | ⟨i, Y', c, hi, hy, hl, hk⟩)⟩
      · exact ⟨none, _, by have := run_endLoop (P := P) hl (by rw [hrec]; simp); rw [hrec] at this; exact this, hdone Y' _ (hI _ _ _ _ hi ((Keep.refl _ _ _).putObj (by omega) hy.2 _)) ((World.putObj_heap_other (by omega)).trans hk)⟩
      · exact ⟨some c, _, by have := run_endLoop (P := P) hl (by rw [hrec]; simp); rw [hrec] at this; exact this, hstop c i Y' _ (hIx _ _ _ _ _ hi ((Keep.refl _ _ _).putObj (by omega) hy.2 _)) ((World.putObj_heap_other (by omega)).trans hk)⟩

end Go.Proofs.YtdlmdaononclgaaDoor

/- A region that draws its order, with loads first, and at its end an append and a store into a cell that was read: in a round. -/
namespace Go.Proofs.YtdlmdaononclgaaDoor
open Go.RowKit
set_option linter.unusedVariables false
set_option linter.unusedSimpArgs false

section
variable {P : Program} {ops : Array Oper} {Q : Exit → Act → World → Prop} {md : Region.Mode} {S : World → Prop} {last : Nat}

/-- whatever order is picked from here on, and S holds behind every operation but the last. -/
def wpAnyT (P : Program) (md : Region.Mode) (ops : Array Oper) (Q : Exit → Act → World → Prop) (S : World → Prop) (last : Nat) : Nat → Array Bool → Act → World → Prop
  | 0, listed, a, w => Region.ready md ops listed = [] ∧ Q .normal a w
  | fuel + 1, listed, a, w =>
    (Region.ready md ops listed = [] → Q .normal a w) ∧
    ∀ i ∈ Region.ready md ops listed, wpOp P ops Q i (fun a' w' => (i ≠ last → S w') ∧ wpAnyT P md ops Q S last fuel (listed.setIfInBounds i true) a' w') a w

theorem wpAny_of_T : ∀ (fuel : Nat) (listed : Array Bool) (a : Act) (w : World), wpAnyT P md ops Q S last fuel listed a w → wpAny P md ops Q fuel listed a w
  | 0, _, _, _, h => h
  | fuel + 1, _, _, _, h => ⟨h.1, fun i hi => wpOp_mono (fun a' w' h' => wpAny_of_T fuel _ a' w' h'.2) (h.2 i hi)⟩

theorem wpAnyT_first {i : Nat} {oi : Oper} {v : Value} (hi : ops[i]? = some oi) (hsel : ∀ (j : Nat) (o : Oper) cs b, ops[j]? = some o → o.op ≠ .select cs b)
    (hQ : ∀ c a w, Q (.panic c) (a.put oi.dst v) w → Q (.panic c) a w) (hil : i ≠ last) (hwait : Region.waitsFor md ops last i = true) :
    ∀ (fuel : Nat) (listed : Array Bool) (a : Act) (w : World),
      (∀ j oj, ops[j]? = some oj → j ≠ i → listed.getD j true = false → (∀ e ∈ oj.after, Region.binds md e = true → e.on ≠ i) → oi.apart ops oj = true) →
      i ∈ Region.ready md ops listed → YieldsIf P ops S oi v a → S w →
      wpAnyT P md ops Q S last fuel (listed.setIfInBounds i true) (a.put oi.dst v) w → wpAnyT P md ops Q S last (fuel + 1) listed a w := by
  intro fuel
  induction fuel with
  | zero =>
    intro listed a w _ hr hy hS H
    refine ⟨fun h => (by rw [h] at hr; cases hr), fun j hj => ?_⟩
    by_cases hji : j = i
    · subst hji; exact hy.wpOp hi hS ⟨fun _ => hS, H⟩
    · have := ready_mono hj hji
      rw [H.1] at this
      cases this
  | succ fuel ih =>
    intro listed a w hfree hr hy hS H
    refine ⟨fun h => (by rw [h] at hr; cases hr), fun j hj => ?_⟩
    by_cases hji : j = i
    · subst hji; exact hy.wpOp hi hS ⟨fun _ => hS, H⟩
    · have h1 := H.2 j (ready_mono hj hji)
      obtain ⟨hjun, oj, hoj, hall⟩ := mem_ready.1 hj
      have hnot : ∀ e ∈ oj.after, Region.binds md e = true → e.on ≠ i := fun e he hb heq => by
        have h1 := hall e he hb
        have h0 := (mem_ready.1 hr).1
        rw [heq] at h1
        rcases Nat.lt_or_ge i listed.size with h' | h'
        · simp [h'] at h0 h1; rw [h0] at h1; cases h1
        · simp [Array.getElem?_eq_none h'] at h1
      have hjl : j ≠ last := fun e => by
        subst e
        obtain ⟨o', ho', e, he, hb, hon⟩ := Region.waitsFor_spec hwait
        have : o' = oj := Option.some.inj (ho'.symm.trans hoj)
        subst this
        exact hnot e he hb hon
      have h2 := wpOp_putIf hoj (hfree j oj hoj hji hjun hnot) (fun cs b => hsel i oi cs b hi) (fun cs b => hsel j oj cs b hoj) hQ hy h1
      have hfree' : ∀ k ok, ops[k]? = some ok → k ≠ i → (listed.setIfInBounds j true).getD k true = false →
          (∀ e ∈ ok.after, Region.binds md e = true → e.on ≠ i) → oi.apart ops ok = true := fun k ok hk hki hun hno => by
        refine hfree k ok hk hki ?_ hno
        by_cases hjk : j = k
        · subst hjk; exact hjun
        · rw [getD_set_ne true hjk] at hun; exact hun
      refine wpOp_mono (fun a' w' h3 => ⟨fun _ => h3.2.1 hjl, ih (listed.setIfInBounds j true) a' w' hfree' (ready_mono hr (Ne.symm hji)) h3.1 (h3.2.1 hjl) ?_⟩) h2
      rw [Array.setIfInBounds_comm _ _ hji]
      exact h3.2.2

/-- the first operations yield their values in every world that meets S. -/
def wpHeld (P : Program) (ops : Array Oper) (S : World → Prop) (Q : Act → Prop) : List Oper → Act → Prop
  | [], a => Q a
  | o :: rest, a => ∃ v, YieldsIf P ops S o v a ∧ wpHeld P ops S Q rest (a.put o.dst v)
/-- the others come one at a time. -/
def wpTail (P : Program) (ops : Array Oper) (Q : Exit → Act → World → Prop) (S : World → Prop) (last : Nat) : List Oper → Nat → Act → World → Prop
  | [], _, a, w => Q .normal a w
  | o :: rest, k, a, w => if Region.wanted o (yielded ops a.tmps) then o.wp P a w (fun a' w' => (k ≠ last → S w') ∧ wpTail P ops Q S last rest (k + 1) a' w') Q else False

theorem wpTail_cons {o : Oper} {rest : List Oper} {k : Nat} {a : Act} {w : World}
    (h : ∀ K : Act → World → Prop, Hid (∀ a' w', (k ≠ last → S w') → wpTail P ops Q S last rest (k + 1) a' w' → K a' w') → if Region.wanted o (yielded ops a.tmps) then o.wp P a w K Q else False) : wpTail P ops Q S last (o :: rest) k a w :=
  h _ (Lib.hid fun _ _ h1 h2 => ⟨h1, h2⟩)

theorem wpAnyT_of_tail : ∀ (l : List Oper) (k : Nat) (listed : Array Bool) (a : Act) (w : World), (∀ j, l[j]? = ops[k + j]?) →
    Region.seqB md ops l.length k listed = true → wpTail P ops Q S last l k a w → wpAnyT P md ops Q S last l.length listed a w
  | [], _, _, _, _, _, hB, h => ⟨by simpa [Region.seqB] using hB, h⟩
  | o :: l, k, listed, a, w, hl, hB, h => by
    have h0 : ops[k]? = some o := by simpa using (hl 0).symm
    simp only [List.length_cons, Region.seqB, Bool.and_eq_true, decide_eq_true_eq] at hB
    refine ⟨fun h1 => (by rw [hB.1] at h1; cases h1), fun i hi => ?_⟩
    rw [hB.1] at hi
    have hik : i = k := by simpa using hi
    subst hik
    unfold wpTail at h
    by_cases hw : Region.wanted o (yielded ops a.tmps) = true
    · rw [if_pos hw] at h
      unfold wpOp
      simp only [h0, hw, if_true]
      exact .inl (Oper.wp_mono (fun a' w' h' => ⟨h'.1, wpAnyT_of_tail l (i + 1) _ a' w' (fun j => by have := hl (j + 1); simpa [Nat.add_assoc, Nat.add_comm 1 j] using this) hB.2 h'.2⟩) h)
    · rw [if_neg hw] at h
      exact h.elim

theorem wpAnyT_lex {Q' : Act → World → Prop} {tl : List Oper} {k0 : Nat} (hsel : Region.noSelect ops = true) (htl : ∀ j, tl[j]? = ops[k0 + j]?) :
    ∀ (l : List Oper) (k : Nat) (listed : Array Bool) (a : Act) (w : World), (∀ j, j < l.length → l[j]? = ops[k + j]?) → k + l.length = k0 → (∀ j, j < l.length → k + j ≠ last ∧ Region.waitsFor md ops last (k + j) = true) →
    Region.lexHead md ops tl.length l.length k listed = true → S w → wpHeld P ops S (fun a' => wpTail P ops (fun e a w => e = .normal ∧ Q' a w) S last tl k0 a' w) l a →
    wpAnyT P md ops (fun e a w => e = .normal ∧ Q' a w) S last (l.length + tl.length) listed a w
  | [], k, listed, a, w, hl, hk, hw, hB, hS, h => by
    have : k = k0 := by simpa using hk
    subst this
    rw [List.length_nil, Nat.zero_add]
    exact wpAnyT_of_tail tl k listed a w htl (by simpa [Region.lexHead] using hB) h
  | o :: l, k, listed, a, w, hl, hk, hw, hB, hS, h => by
    have h0 : ops[k]? = some o := by simpa using (hl 0 (by simp)).symm
    simp only [List.length_cons, Region.lexHead, Bool.and_eq_true] at hB
    obtain ⟨⟨hr, hf⟩, hB'⟩ := hB
    obtain ⟨v, hy, hK⟩ := h
    have h1 := hw 0 (by simp)
    rw [Nat.add_zero] at h1
    rw [List.length_cons, show l.length + 1 + tl.length = (l.length + tl.length) + 1 by omega]
    refine wpAnyT_first h0 (Region.noSelect_spec hsel) (fun _ _ _ h => by cases h.1) h1.1 h1.2 _ listed a w (Region.free_spec h0 hf) (by simpa using hr) hy hS ?_
    exact wpAnyT_lex hsel htl l (k + 1) _ _ w (fun j hj => by have := hl (j + 1) (by simp; omega); simpa [Nat.add_assoc, Nat.add_comm 1 j] using this) (by simp only [List.length_cons] at hk; omega)
      (fun j hj => by have := hw (j + 1) (by simp; omega); simpa [Nat.add_assoc, Nat.add_comm 1 j] using this) hB' hS hK
end

variable {n : Nat} {P : Program}
/-- the check of such a region: k operations first, then one at a time; the last waits for all of the first. -/
def heldB (ops : Array Oper) (k : Nat) : Bool :=
  Region.noSelect ops && decide (k < ops.size) && Region.lexHead .any ops (ops.size - k) k 0 (Array.replicate ops.size false) && (List.range k).all fun i => Region.waitsFor .any ops (ops.size - 1) i

theorem region_held_round {id : Nat} {Q : Exit → Act → World → Prop} {a : Act} {w : World} {l : List Oper} (S : World → Prop) (L : Nat) (k : Nat) (hm : P.follows .mixedOrders = true) (hB : heldB l.toArray k = true) (hd : noDefer l = true)
    (hS : S (w.drewN 1))
    (h : ∀ K : Act → World → Prop, Hid (∀ a w, Q .normal a w → K a w) → wpHeld P l.toArray S (fun a' => wpTail P l.toArray (fun e a w => e = .normal ∧ K a w) S (l.toArray.size - 1) (l.drop k) k a' (w.drewN 1)) (l.take k) a) :
    (Code.region id l.toArray true).wpIn (Fence.wide.inRound L) n P Q a w := by
  have h := h (Q .normal) (Lib.hid fun _ _ h => h)
  simp only [heldB, Bool.and_eq_true, decide_eq_true_eq, List.all_eq_true, List.mem_range] at hB
  obtain ⟨⟨⟨hsel, hn⟩, hlex⟩, hwt⟩ := hB
  have hn' : k < l.length := by simpa using hn
  have htl : (l.take k).length = k := by simp; omega
  have hdl : (l.drop k).length = l.toArray.size - k := by simp
  have H := wpAnyT_lex (P := P) (md := .any) (ops := l.toArray) (S := S) (last := l.toArray.size - 1) (tl := l.drop k) (k0 := k) hsel (fun j => by simp [List.getElem?_drop]) (l.take k) 0 (Array.replicate l.toArray.size false) a (w.drewN 1)
    (fun j hj => by have hj' : j < k := by rw [htl] at hj; exact hj
                    simp [hj'])
    (by simpa using htl) (fun j hj => by have hj' : j < k := by rw [htl] at hj; exact hj
                                         rw [Nat.zero_add]; exact ⟨by simp; omega, hwt j hj'⟩) (by rw [htl, hdl]; exact hlex) hS h
  rw [htl, hdl, show k + (l.toArray.size - k) = l.toArray.size by omega] at H
  have hno : ¬ LetsOut (fun e a w => e = Exit.normal ∧ Q .normal a w) := fun ⟨_, _, h, _⟩ => by cases h
  have h2 := anyIn_round L rfl (by simpa using hd) _ _ _ _ (anyIn_of_any (n := n) hno _ _ _ _ (wpAny_of_T _ _ _ _ H))
  exact wpIn_mono (wpIn_region_any hm h2) (fun e a w h => by obtain ⟨rfl, h⟩ := h; exact h)

end Go.Proofs.YtdlmdaononclgaaDoor

/- A region that draws its order, whose calls make memory but leave alone what was there: one walk of the text's order. -/
namespace Go.Proofs.YtdlmdaononclgaaDoor
open Go.RowKit
set_option linter.unusedVariables false
set_option linter.unusedSimpArgs false

/-- a world in which S holds. -/
structure Kd (S : World → Prop) where
  w : World
  ok : S w
/-- worlds that have W below. -/
def Bl (W w : World) : Prop := Below W.heap.size W w

instance Kd.inst (W : World) : Nonempty (Kd (Bl W)) := ⟨⟨W, Below.refl _ W⟩⟩

variable {P : Program}
theorem Kd.cell {W : World} {a : Addr} {v : Value} (h : W.cell? a = some v) : ∀ k : Kd (Bl W), k.w.cell? a = some v := fun k => cell_later k.ok h
theorem kept_call {W : World} {f : FuncId} {args : Array Value} {k : Kd (Bl W)} {v : Value} (h : Calls P f args k.w fun e w' => e = .returned v ∧ Below k.w.heap.size k.w w') :
    Calls P f args k.w fun e w'' => e = .returned v ∧ ∃ m : Kd (Bl W), w'' = m.w :=
  h.mono fun _ w' ⟨he, hb⟩ => ⟨he, ⟨w', hb.mono k.ok.size |> k.ok.trans⟩, rfl⟩
theorem kept_same {W : World} {f : FuncId} {args : Array Value} {k : Kd (Bl W)} {v : Value} (h : Calls P f args k.w fun e w' => e = .returned v ∧ k.w = w') :
    Calls P f args k.w fun e w'' => e = .returned v ∧ ∃ m : Kd (Bl W), w'' = m.w :=
  h.mono fun _ w' ⟨he, hb⟩ => ⟨he, k, hb.symm⟩
theorem Below.drewN' {B : Nat} {a w : World} (h : Below B a w) (n : Nat) : Below B a (w.drewN n) := ⟨h.os, h.tape, h.output, h.size, h.block⟩
theorem kept_drew {W : World} {f : FuncId} {args : Array Value} {k : Kd (Bl W)} {v : Value} (h : Calls P f args k.w fun e w' => e = .returned v ∧ ∃ n, w' = k.w.drewN n) :
    Calls P f args k.w fun e w'' => e = .returned v ∧ ∃ m : Kd (Bl W), w'' = m.w :=
  h.mono fun _ w' ⟨he, n, hb⟩ => ⟨he, ⟨w', by subst hb; exact Below.drewN' k.ok n⟩, rfl⟩

theorem region_kept {id : Nat} {Q : Exit → Act → World → Prop} {a : Act} {w : World} {l : List Oper} (hm : P.follows .mixedOrders = true) (hB : Region.lexB .any l.toArray = true)
    (h : wpQuiet P l.toArray (fun w' => ∃ k : Kd (Bl w), w' = k.w) (fun a' => ∀ w', (∃ k : Kd (Bl w), w' = k.w) → Q .normal a' w') l a) : (Code.region id l.toArray true).wp P Q a w :=
  wp_region_quiet (C := fun w' => ∃ k : Kd (Bl w), w' = k.w) hm hB ⟨⟨_, Below.drewN' (Below.refl _ w) 1⟩, rfl⟩ (by simpa using h)

end Go.Proofs.YtdlmdaononclgaaDoor
