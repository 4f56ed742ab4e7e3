import Derived.Test.YtdlmdaononclgaaFrac
import Derived.Shelf.Abstract
/- Slices that read as lists; valid positions: arePlaces and the reference's rising. -/
namespace Go.Proofs.Ytdlmdaononclgaa
open Go.RowKit
set_option linter.unusedVariables false
set_option linter.unusedSimpArgs false

/-- from the address A on, below block B, lie the cells cs (none: A may be nil). -/
def RD (w : World) (B : Nat) (A : Option Addr) (cs : List Value) : Prop :=
  cs = [] ∨ ∃ b off, A = some ⟨b, off, none⟩ ∧ b < B ∧ ∀ j v, cs[j]? = some v → w.cell? ⟨b, off + j, none⟩ = some v

theorem RD.keep {w w' : World} {B B' : Nat} {A : Option Addr} {cs : List Value} (h : RD w B A cs) (hb : Below B' w w') (hB : B ≤ B') : RD w' B A cs := by
  rcases h with h | ⟨b, off, rfl, hlt, hc⟩
  · exact .inl h
  · exact .inr ⟨b, off, rfl, hlt, fun j v hv => (hb.cell (p := ⟨b, off + j, none⟩) (by show b < B'; omega)).trans (hc j v hv)⟩
theorem RD.more {w : World} {B B' : Nat} {A : Option Addr} {cs : List Value} (h : RD w B A cs) (hB : B ≤ B') : RD w B' A cs := by
  rcases h with h | ⟨b, off, rfl, hlt, hc⟩
  · exact .inl h
  · exact .inr ⟨b, off, rfl, by omega, hc⟩
theorem RD.nil (w : World) (B : Nat) (A : Option Addr) : RD w B A [] := .inl rfl

/-- numbers as cells. -/
def ints (xs : List Int) : List Value := xs.map (Value.int .i64)
theorem ints_length (xs : List Int) : (ints xs).length = xs.length := List.length_map _
theorem ints_get (xs : List Int) (j : Nat) : (ints xs)[j]? = xs[j]?.map (Value.int .i64) := List.getElem?_map

/-- the number at an index (0 beyond the end), behind a name. -/
def ix (xs : List Int) (k : Nat) : Int := xs.getD k 0

/-- where there is a number the address is known, and all cells. -/
theorem RD.ints {w : World} {B : Nat} {A : Option Addr} {xs : List Int} (h : RD w B A (ints xs)) (hp : 0 < xs.length) :
    ∃ b off, A = some ⟨b, off, none⟩ ∧ b < B ∧ ∀ j, j < xs.length → w.cell? ⟨b, off + j, none⟩ = some (.int .i64 (ix xs j)) := by
  rcases h with h | ⟨b, off, rfl, hlt, hc⟩
  · have := congrArg List.length h; rw [ints_length] at this; simp only [List.length_nil] at this; omega
  · refine ⟨b, off, rfl, hlt, fun j hj => hc j _ ?_⟩
    rw [ints_get, List.getElem?_eq_getElem hj]
    simp [ix, List.getD, List.getElem?_eq_getElem hj]

/-- valid positions: 2 to many, rising, from 0 to most. -/
def okP (many most : Int) (xs : List Int) : Bool :=
  decide (2 ≤ xs.length ∧ (xs.length : Int) ≤ many ∧ 0 ≤ ix xs 0 ∧ ix xs (xs.length - 1) ≤ most ∧ ∀ k, k < xs.length - 1 → ix xs k < ix xs (k + 1))
structure OkP (many most : Int) (xs : List Int) : Prop where
  two : 2 ≤ xs.length
  many : (xs.length : Int) ≤ many
  low : 0 ≤ ix xs 0
  high : ix xs (xs.length - 1) ≤ most
  inc : ∀ k, k < xs.length - 1 → ix xs k < ix xs (k + 1)
theorem okP_true {many most : Int} {xs : List Int} (h : okP many most xs = true) : OkP many most xs :=
  let ⟨a, b, c, d, e⟩ := of_decide_eq_true h; ⟨a, b, c, d, e⟩
theorem okP_mk {many most : Int} {xs : List Int} (h : OkP many most xs) : okP many most xs = true := decide_eq_true ⟨h.two, h.many, h.low, h.high, h.inc⟩
theorem okP_no {many most : Int} {xs : List Int} (h : ¬ OkP many most xs) : okP many most xs = false := by
  cases e : okP many most xs with
  | false => rfl
  | true => exact absurd (okP_true e) h

set_option maxHeartbeats 1000000 in
theorem arePlaces_any (xs : List Int) (A : Option Addr) (c : Nat) (many most : Int) (w : World) (hc : xs.length ≤ c) (hm : c ≤ 9223372036854775807) {B : Nat} (h : RD w B A (ints xs)) :
    Calls Try.prog 75 #[.slice A xs.length c, .int .i64 many, .int .i64 most] w fun e w' => e = .returned (.bool (okP many most xs)) ∧ w = w' := by
  cases h1 : within (xs.length : Int) 2 many with
  | false =>
    have hn := within_false h1
    rw [okP_no (fun k => hn ⟨by have := k.two; omega, k.many⟩)]
    go_enter Try.func75, Try.ntmps75
    go_wp2_with (go_at_call 71; (with_reducible refine (isWithin_is h1 _).mono ?_); rintro e w' ⟨rfl, rfl⟩)
    go_ret
    exact ⟨rfl, rfl⟩
  | true =>
    obtain ⟨n2, nm⟩ := within_true h1
    obtain ⟨b, off, rfl, hb, hcell⟩ := h.ints (by omega)
    have x0 := hcell 0 (by omega)
    have xl := hcell (xs.length - 1) (by omega)
    have HC := Lib.hid hcell; clear hcell
    clear h hb
    rw [Nat.add_zero] at x0
    go_enter Try.func75, Try.ntmps75
    go_wp2_with (go_at_call 71; (with_reducible refine (isWithin_is h1 _).mono ?_); rintro e w' ⟨rfl, rfl⟩)
    all_goals first
      | (go_ret
         rw [okP_no (fun k => by have := k.low; have := k.high; omega)]
         exact ⟨rfl, rfl⟩)
      | skip
    go_loop [33] (fun x => ∃ k : Nat, k ≤ xs.length - 1 ∧ x = .int .i64 k ∧ ∀ j : Nat, j < k → ix xs j < ix xs (j + 1)) (fun x => xs.length - (intOf x).toNat)
    case atStart => exact ⟨0, by omega, rfl, fun j hj => by omega⟩
    case round =>
      obtain ⟨k, hk, rfl, hlt⟩ := hrel
      have HL := Lib.hid hlt; clear hlt
      by_cases hk' : k < xs.length - 1
      · have y0 := HC.out k (by omega)
        have y1 := HC.out (k + 1) (by omega)
        rw [show off + (k + 1) = off + 1 + k by omega] at y1
        go_wp2
        · go_ret
          rw [okP_no (fun q => by have := q.inc k (by omega); omega)]
          exact ⟨rfl, rfl⟩
        · go_round
          case rel => exact ⟨k + 1, by omega, by go_num, fun j hj => by rcases (by omega : j < k ∨ j = k) with h | rfl; exact HL.out j h; assumption⟩
          case measure => simp [intOf]; omega
      · go_wp2
        go_ret
        rw [okP_mk ⟨by omega, by omega, by omega, by omega, fun j hj => HL.out j (by omega)⟩]
        exact ⟨rfl, rfl⟩

end Go.Proofs.Ytdlmdaononclgaa
