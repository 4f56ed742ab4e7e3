import Derived.Test.YtdlmdaononclgaaMem2
/- CheckPlaces, ContainsFunc, checkOrdinates, in both. -/
namespace Go.Proofs.Ytdlmdaononclgaa
open Go.RowKit
set_option linter.unusedVariables false
set_option linter.unusedSimpArgs false

theorem arePlaces_is {xs : List Int} {many most : Int} {r : Bool} (hr : okP many most xs = r) (A : Option Addr) (c : Nat) (w : World) (hc : xs.length ≤ c) (hm : c ≤ 9223372036854775807) {B : Nat} (h : RD w B A (ints xs)) :
    Calls Try.prog 75 #[.slice A xs.length c, .int .i64 many, .int .i64 most] w fun e w' => e = .returned (.bool r) ∧ w = w' := by
  subst hr; exact arePlaces_any xs A c many most w hc hm h
theorem rising_is {xs : List Int} {many most : Int} {r : Bool} (hr : okP many most xs = r) (A : Option Addr) (c : Nat) (w : World) (hc : xs.length ≤ c) (hm : c ≤ 9223372036854775807) {B : Nat} (h : RD w B A (ints xs)) :
    Calls Try.prog 76 #[.slice A xs.length c, .int .i64 many, .int .i64 most] w fun e w' => e = .returned (.bool r) ∧ ∃ k, w' = w.drewN k := by
  subst hr; exact rising_any xs A c many most w hc hm h

theorem CheckPlaces_yes {xs : List Int} (hr : okP 9 100000 xs = true) (A : Option Addr) (c : Nat) (w : World) (hc : xs.length ≤ c) (hm : c ≤ 9223372036854775807) {B : Nat} (h : RD w B A (ints xs)) :
    Calls Try.prog 31 #[.slice A xs.length c] w fun e w' => e = .returned (.int .i64 0) ∧ w = w' := by
  go_enter Try.func31, Try.ntmps31
  go_wp2_with (go_at_call 75; (with_reducible refine (arePlaces_is hr A c _ hc hm h).mono ?_); rintro e w' ⟨rfl, rfl⟩)
  go_ret
  exact ⟨rfl, rfl⟩
theorem CheckPlaces_no {xs : List Int} (hr : okP 9 100000 xs = false) (A : Option Addr) (c : Nat) (w : World) (hc : xs.length ≤ c) (hm : c ≤ 9223372036854775807) {B : Nat} (h : RD w B A (ints xs)) :
    Calls Try.prog 31 #[.slice A xs.length c] w fun e w' => e = .returned (.int .i64 12) ∧ w = w' := by
  go_enter Try.func31, Try.ntmps31
  go_wp2_with (go_at_call 75; (with_reducible refine (arePlaces_is hr A c _ hc hm h).mono ?_); rintro e w' ⟨rfl, rfl⟩)
  go_ret
  exact ⟨rfl, rfl⟩
theorem refCheckPlaces_yes {xs : List Int} (hr : okP 9 100000 xs = true) (A : Option Addr) (c : Nat) (w : World) (hc : xs.length ≤ c) (hm : c ≤ 9223372036854775807) {B : Nat} (h : RD w B A (ints xs)) :
    Calls Try.prog 32 #[.slice A xs.length c] w fun e w' => e = .returned (.int .i64 0) ∧ ∃ k, w' = w.drewN k := by
  go_enter Try.func32, Try.ntmps32
  go_wp2_with (go_at_call 76; (with_reducible refine (rising_is hr A c _ hc hm h).mono ?_); rintro e w' ⟨rfl, k, rfl⟩)
  go_ret
  exact ⟨rfl, k, rfl⟩
theorem refCheckPlaces_no {xs : List Int} (hr : okP 9 100000 xs = false) (A : Option Addr) (c : Nat) (w : World) (hc : xs.length ≤ c) (hm : c ≤ 9223372036854775807) {B : Nat} (h : RD w B A (ints xs)) :
    Calls Try.prog 32 #[.slice A xs.length c] w fun e w' => e = .returned (.int .i64 12) ∧ ∃ k, w' = w.drewN k := by
  go_enter Try.func32, Try.ntmps32
  go_wp2_with (go_at_call 76; (with_reducible refine (rising_is hr A c _ hc hm h).mono ?_); rintro e w' ⟨rfl, k, rfl⟩)
  go_ret
  exact ⟨rfl, k, rfl⟩

/-- a predicate that only computes. -/
def Pred (g : Nat) (p : Int → Bool) : Prop := ∀ (x : Int) (W : World), Calls Try.prog g #[.int .i64 x] W fun e w' => e = .returned (.bool (p x)) ∧ W = w'

theorem Pred.at {g : Nat} {p : Int → Bool} (h : Pred g p) {x : Int} {b : Bool} (hq : p x = b) (W : World) : Calls Try.prog g #[.int .i64 x] W fun e w' => e = .returned (.bool b) ∧ W = w' := by
  subst hq; exact h x W

/-- does p hold of some element? -/
def anyB (p : Int → Bool) (xs : List Int) : Bool := xs.any p
theorem anyB_no {p : Int → Bool} {xs : List Int} (h : ∀ j, j < xs.length → p (ix xs j) = false) : anyB p xs = false := by
  rw [anyB, List.any_eq_false]
  intro x hx
  obtain ⟨j, hj, rfl⟩ := List.getElem_of_mem hx
  have := h j hj
  simp only [ix, List.getD, List.getElem?_eq_getElem hj, Option.getD_some] at this
  simp [this]
theorem anyB_yes {p : Int → Bool} {xs : List Int} (j : Nat) (hj : j < xs.length) (h : p (ix xs j) = true) : anyB p xs = true := by
  rw [anyB, List.any_eq_true]
  refine ⟨xs[j], List.getElem_mem hj, ?_⟩
  simpa only [ix, List.getD, List.getElem?_eq_getElem hj, Option.getD_some] using h

/-- what IndexFunc answers: an index, at which p holds; -1 if there is none. -/
def IdxPost (p : Int → Bool) (xs : List Int) (w : World) (e : Ending) (w' : World) : Prop :=
  ∃ i : Int, e = .returned (.int .i64 i) ∧ w = w' ∧ decide (0 ≤ i) = anyB p xs

set_option maxHeartbeats 1000000 in
theorem IndexFunc_any (g : Nat) (eg : ∀ args w, (callFunc g args).run Try.prog w = .ok (.enter g args) w) (p : Int → Bool) (hp : Pred g p) (xs : List Int) (A : Option Addr) (c : Nat) (w : World) (hc : xs.length ≤ c) (hm : c ≤ 9223372036854775807) {B : Nat} (h : RD w B A (ints xs)) :
    Calls Try.prog 112 #[.slice A xs.length c, .func (.func g) #[] #[]] w (IdxPost p xs w) := by
  have HP := Lib.hid hp; clear hp
  have HR := Lib.hid h; clear h
  go_enter Try.func112, Try.ntmps112
  go_wp2
  go_loop [8] (fun x => ∃ k : Nat, k ≤ xs.length ∧ x = .int .i64 k ∧ ∀ j : Nat, j < k → p (ix xs j) = false) (fun x => xs.length - (intOf x).toNat)
  case atStart => exact ⟨0, by omega, rfl, fun j hj => by omega⟩
  case round =>
    obtain ⟨k, hk, rfl, hlt⟩ := hrel
    have HL := Lib.hid hlt; clear hlt
    by_cases hk' : k < xs.length
    · obtain ⟨b, off, rfl, hb, hcell⟩ := HR.out.ints (by omega)
      have y0 := hcell k (by omega)
      clear hcell
      cases hq : p (ix xs k) with
      | true =>
        have HQ := Lib.hid hq
        go_wp2_with (go_at_fn g; (with_reducible refine (Pred.at HP.out HQ.out _).mono ?_); rintro e w' ⟨rfl, rfl⟩)
        go_ret
        exact ⟨k, rfl, rfl, by rw [anyB_yes k hk' HQ.out]; exact decide_eq_true (by omega)⟩
      | false =>
        have HQ := Lib.hid hq
        go_wp2_with (go_at_fn g; (with_reducible refine (Pred.at HP.out HQ.out _).mono ?_); rintro e w' ⟨rfl, rfl⟩)
        go_round
        case rel => exact ⟨k + 1, by omega, by go_num, fun j hj => (by rcases (by omega : j < k ∨ j = k) with h | rfl; exact HL.out j h; exact HQ.out)⟩
        case measure => simp [intOf]; omega
    · go_wp2
      go_ret
      exact ⟨-1, rfl, rfl, by rw [anyB_no (fun j hj => HL.out j (by omega))]; rfl⟩

theorem ContainsFunc_is (g : Nat) (eg : ∀ args w, (callFunc g args).run Try.prog w = .ok (.enter g args) w) {p : Int → Bool} (hp : Pred g p) {xs : List Int} {r : Bool} (hr : anyB p xs = r) (A : Option Addr) (c : Nat) (w : World) (hc : xs.length ≤ c) (hm : c ≤ 9223372036854775807) {B : Nat} (h : RD w B A (ints xs)) :
    Calls Try.prog 101 #[.slice A xs.length c, .func (.func g) #[] #[]] w fun e w' => e = .returned (.bool r) ∧ w = w' := by
  have H := Lib.hid (IndexFunc_any g eg p hp xs A c w hc hm h)
  have HR := Lib.hid hr; clear hr hp h
  go_enter Try.func101, Try.ntmps101
  go_wp2_with (go_at_call 112; (with_reducible refine H.out.mono ?_); rintro e w' ⟨i, rfl, rfl, hi⟩; have HI := Lib.hid hi; clear hi)
  go_ret
  exact ⟨ret_bool (HI.out.trans HR.out), rfl⟩

end Go.Proofs.Ytdlmdaononclgaa
