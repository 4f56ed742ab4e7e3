import Derived.Test.YtdlmdaononclgaaCollG
import Derived.Test.YtdlmdaononclgaaRefC
import Derived.Test.YtdlmdaononclgaaLawScales
/- WeighPlaces: the walk. -/
namespace Go.Proofs.Ytdlmdaononclgaa
open Go.RowKit
set_option linter.unusedVariables false
set_option linter.unusedSimpArgs false

theorem OwnG.formN {w : World} {base : Nat} {v : Value} {gs : List (Int × Int)} (h : OwnG w base v gs) {n : Nat} (hn : gs.length = n) :
    ∃ A cap, v = .slice A n cap ∧ n ≤ cap ∧ cap ≤ 9223372036854775807 ∧ GD w w.heap.size A gs := by
  subst hn
  obtain ⟨A, cap, h1, h2, h3, h4, _⟩ := h.form
  exact ⟨A, cap, h1, h2, h3, h4⟩
theorem SameGroups_is {gs bs : List (Int × Int)} {d : Int} {r : Bool} {n m : Nat} (hr : sameG gs bs d = r) (hn : gs.length = n) (hmm : bs.length = m) (A : Option Addr) (c : Nat) (A2 : Option Addr) (c2 : Nat) (hc : n ≤ c) (hm : c ≤ 9223372036854775807) (hc2 : m ≤ c2) (hm2 : c2 ≤ 9223372036854775807)
    (d0 : 0 ≤ d) (d1 : d ≤ 1000) (hbd : ∀ j, j < bs.length → 0 ≤ (gx bs j).1 ∧ (gx bs j).1 ≤ 1000) (w : World) {B B2 : Nat} (h : GD w B A gs) (h2 : GD w B2 A2 bs) :
    Calls Try.prog 30 #[.slice A n c, .slice A2 m c2, .int .i64 d] w fun e w' => e = .returned (.bool r) ∧ ∃ k, w' = w.drewN k := by
  subst hn; subst hmm; subst hr; exact SameGroups_any gs bs d A c A2 c2 hc hm hc2 hm2 d0 d1 hbd w h h2
theorem groups_bd {xs : List Int} (h9 : xs.length ≤ 9) : ∀ j, j < (groupsZ xs).length → 0 ≤ (gx (groupsZ xs) j).1 ∧ (gx (groupsZ xs) j).1 ≤ 1000 := fun j hj => by
  obtain ⟨k, hk, ⟨e, _⟩ | ⟨e, _⟩⟩ := group_at (gx_get hj) <;> (rw [e]; simp only; omega)
theorem sameG_self (gs : List (Int × Int)) : sameG gs gs 0 = true := by
  refine decide_eq_true ?_
  have : (fun p : Int × Int => (p.1 + 0, p.2)) = id := funext fun p => by simp
  rw [this, List.map_id]

set_option maxHeartbeats 4000000 in
set_option maxRecDepth 100000 in
theorem weighPlaces_walk (xs : List Int) (A : Option Addr) (c : Nat) (hc : xs.length ≤ c) (hm : c ≤ 17592186043904) (w : World) (h : RD w w.heap.size A (ints xs)) :
    Calls Try.prog 6 #[.slice A xs.length c] w fun e w' => e = .returned (.bool true) ∧ Below w.heap.size w w' := by
  have hm' : c ≤ 9223372036854775807 := by omega
  have hk : ∀ W, Below w.heap.size w W → RD W W.heap.size A (ints xs) := fun W hb => (h.keep hb (Nat.le_refl _)).more hb.size
  have HK := Lib.hid hk
  clear hk h
  cases hp : okP 9 100000 xs with
  | true =>
    have h9 : xs.length ≤ 9 := by have := (okP_true hp).many; omega
    have hgl := groups_length xs
    obtain ⟨n, hn⟩ : ∃ n, (groupsZ xs).length = n := ⟨_, rfl⟩
    have hwl : (weightsZ xs).length = xs.length := wtAcc_length xs _
    have HN := Lib.hid hn
    have HWL := Lib.hid hwl
    have P1 : Hid (∀ W, Below w.heap.size w W → Calls Try.prog 27 #[.slice A xs.length c] W _) := Lib.hid (fun W hb => Groups_yes hp A c hc hm' W (HK.out W hb))
    have R1 : Hid (∀ W, Below w.heap.size w W → Calls Try.prog 28 #[.slice A xs.length c] W _) := Lib.hid (fun W hb => refGroups_yes hp A c hc hm' W (HK.out W hb))
    have P2 : Hid (∀ W, Below w.heap.size w W → Calls Try.prog 14 #[.slice A xs.length c] W _) := Lib.hid (fun W hb => Weights_yes hp A c hc hm' W (HK.out W hb))
    have R2 : Hid (∀ W, Below w.heap.size w W → Calls Try.prog 29 #[.slice A xs.length c] W _) := Lib.hid (fun W hb => refWeights_yes hp A c hc hm' W (HK.out W hb))
    clear hn hwl
    go_enter Try.func6, Try.ntmps6
    go_wp2_with fail
    refine (P1.out _ (Below.refl _ _)).mono ?_
    rintro e w1 ⟨v1, rfl, ho1, hb1⟩
    obtain ⟨A1, c1, rfl, hc1, hm1, hg1⟩ := ho1.formN HN.out
    have B1 := Lib.hid hb1
    have G1 := Lib.hid hg1
    clear hb1 ho1 hg1
    go_wp2_with fail
    refine (R1.out _ B1.out).mono ?_
    rintro e w2 ⟨v2, rfl, ho2, hb2⟩
    obtain ⟨A2, c2, rfl, hc2, hm2, hg2⟩ := ho2.formN HN.out
    have B2 := Lib.hid (below_step hb2 B1.out B1.out.size)
    have G2 := Lib.hid hg2
    have G1' := Lib.hid (RD.keep G1.out hb2 (Nat.le_refl _))
    have s12 := hb2.size
    clear hb2 ho2 hg2 G1 B1
    go_wp2_with fail
    refine (P2.out _ B2.out).mono ?_
    rintro e w3 ⟨g3, rfl, _, ha3, hb3⟩
    have B3 := Lib.hid (below_step hb3 B2.out B2.out.size)
    have G2' := Lib.hid (RD.keep G2.out hb3 (Nat.le_refl _))
    have G1'' := Lib.hid (RD.keep G1'.out hb3 s12)
    have s23 := hb3.size
    have HA3 := Lib.hid ha3
    clear hb3 G2 G1' B2 ha3
    go_wp2_with fail
    refine (R2.out _ B3.out).mono ?_
    rintro e w4 ⟨g4, rfl, _, ha4, hb4⟩
    have B4 := Lib.hid (below_step hb4 B3.out B3.out.size)
    have H2 := Lib.hid (RD.keep G2'.out hb4 s23)
    have H1 := Lib.hid (RD.keep G1''.out hb4 (by omega))
    have HA3' := Lib.hid (HA3.out.of_block (hb4.block _ HA3.out.lt))
    have HA4 := Lib.hid ha4
    have hnl : n ≤ 9 := by have := HN.out; omega
    clear hb4 B3 G2' G1'' HA3 ha4 s12 s23
    go_wp2_with fail
    refine (SameGroups_is (r := true) (sameG_self (groupsZ xs)) HN.out HN.out A1 c1 A2 c2 hc1 hm1 hc2 hm2 (by omega) (by omega) (groups_bd h9) w4 H1.out H2.out).mono ?_
    rintro e w5 ⟨rfl, q5, rfl⟩
    go_wp2_with fail
    refine (SameInts_is (xs := weightsZ xs) (ys := weightsZ xs) (r := true) (decide_eq_true rfl) _ _ _ _ (Nat.le_refl _) (by have := HWL.out; omega) (Nat.le_refl _) (by have := HWL.out; omega) (w4.drewN q5) HA3'.out.rd HA4.out.rd).mono ?_
    rintro e w6 ⟨rfl, q6, rfl⟩
    have B4' := B4.out
    have z4 := B4'.size
    go_wp2_with fail
    refine (CheckPlaces_yes hp A c _ hc hm' (HK.out _ (by repeat' (first | (with_reducible exact Below.refl _ _) | (with_reducible assumption) | (refine below_step (by assumption) ?_ ?_) | (with_reducible refine below_drewN ?_ _) | (with_reducible refine Below.drew ?_) | (with_reducible refine Below.alloc ?_ ?_ _) | (with_reducible refine Below.setCell ?_ ?_ _) | go_size)))).mono ?_
    rintro e w7 ⟨rfl, rfl⟩
    go_wp2_with fail
    refine (refCheckPlaces_yes hp A c _ hc hm' (HK.out _ (by repeat' (first | (with_reducible exact Below.refl _ _) | (with_reducible assumption) | (refine below_step (by assumption) ?_ ?_) | (with_reducible refine below_drewN ?_ _) | (with_reducible refine Below.drew ?_) | (with_reducible refine Below.alloc ?_ ?_ _) | (with_reducible refine Below.setCell ?_ ?_ _) | go_size)))).mono ?_
    rintro e w7 ⟨rfl, q7, rfl⟩
    go_wp2_with (go_at_call 16; (with_reducible refine (sane_any _).mono ?_); rintro e w8 ⟨rfl, hb8⟩)
    go_ret
    refine ⟨rfl, ?_⟩
    repeat' (first | (with_reducible exact Below.refl _ _) | (with_reducible assumption) | (refine below_step (by assumption) ?_ ?_) | (with_reducible refine below_drewN ?_ _) | (with_reducible refine Below.drew ?_) | (with_reducible refine Below.alloc ?_ ?_ _) | (with_reducible refine Below.setCell ?_ ?_ _) | go_size)
  | false =>
    have P1 : Hid (∀ W, Below w.heap.size w W → Calls Try.prog 27 #[.slice A xs.length c] W _) := Lib.hid (fun W hb => Groups_no hp A c hc hm' W (HK.out W hb))
    have R1 : Hid (∀ W, Below w.heap.size w W → Calls Try.prog 28 #[.slice A xs.length c] W _) := Lib.hid (fun W hb => refGroups_no hp A c hc hm' W (HK.out W hb))
    have P2 : Hid (∀ W, Below w.heap.size w W → Calls Try.prog 14 #[.slice A xs.length c] W _) := Lib.hid (fun W hb => Weights_no hp A c hc hm' W (HK.out W hb))
    have R2 : Hid (∀ W, Below w.heap.size w W → Calls Try.prog 29 #[.slice A xs.length c] W _) := Lib.hid (fun W hb => refWeights_no hp A c hc hm' W (HK.out W hb))
    go_enter Try.func6, Try.ntmps6
    go_wp2_with fail
    refine (P1.out _ (Below.refl _ _)).mono ?_
    rintro e w1 ⟨rfl, rfl⟩
    go_wp2_with fail
    refine (R1.out _ (Below.refl _ _)).mono ?_
    rintro e w1 ⟨rfl, q1, rfl⟩
    go_wp2_with fail
    refine (P2.out _ (by repeat' (first | (with_reducible exact Below.refl _ _) | (with_reducible assumption) | (refine below_step (by assumption) ?_ ?_) | (with_reducible refine below_drewN ?_ _) | (with_reducible refine Below.drew ?_) | (with_reducible refine Below.alloc ?_ ?_ _) | (with_reducible refine Below.setCell ?_ ?_ _) | go_size))).mono ?_
    rintro e w1 ⟨rfl, rfl⟩
    go_wp2_with fail
    refine (R2.out _ (by repeat' (first | (with_reducible exact Below.refl _ _) | (with_reducible assumption) | (refine below_step (by assumption) ?_ ?_) | (with_reducible refine below_drewN ?_ _) | (with_reducible refine Below.drew ?_) | (with_reducible refine Below.alloc ?_ ?_ _) | (with_reducible refine Below.setCell ?_ ?_ _) | go_size))).mono ?_
    rintro e w1 ⟨rfl, q2, rfl⟩
    go_wp2_with fail
    refine (SameGroups_is (gs := []) (bs := []) (r := true) (by decide) rfl rfl none 0 none 0 (Nat.le_refl _) (by omega) (Nat.le_refl _) (by omega) (by omega) (by omega) (fun j hj => by cases hj) _ (B := 0) (B2 := 0) (.inl rfl) (.inl rfl)).mono ?_
    rintro e w1 ⟨rfl, q3, rfl⟩
    go_wp2_with fail
    refine (SameInts_is (xs := []) (ys := []) (r := true) (by decide) none 0 none 0 (Nat.le_refl _) (by omega) (Nat.le_refl _) (by omega) _ (B := 0) (B2 := 0) (.inl rfl) (.inl rfl)).mono ?_
    rintro e w1 ⟨rfl, q4, rfl⟩
    go_wp2_with fail
    refine (CheckPlaces_no hp A c _ hc hm' (HK.out _ (by repeat' (first | (with_reducible exact Below.refl _ _) | (with_reducible assumption) | (refine below_step (by assumption) ?_ ?_) | (with_reducible refine below_drewN ?_ _) | (with_reducible refine Below.drew ?_) | (with_reducible refine Below.alloc ?_ ?_ _) | (with_reducible refine Below.setCell ?_ ?_ _) | go_size)))).mono ?_
    rintro e w1 ⟨rfl, rfl⟩
    go_wp2_with fail
    refine (refCheckPlaces_no hp A c _ hc hm' (HK.out _ (by repeat' (first | (with_reducible exact Below.refl _ _) | (with_reducible assumption) | (refine below_step (by assumption) ?_ ?_) | (with_reducible refine below_drewN ?_ _) | (with_reducible refine Below.drew ?_) | (with_reducible refine Below.alloc ?_ ?_ _) | (with_reducible refine Below.setCell ?_ ?_ _) | go_size)))).mono ?_
    rintro e w1 ⟨rfl, q5, rfl⟩
    go_wp2_with (go_at_call 16; (with_reducible refine (sane_any _).mono ?_); rintro e w8 ⟨rfl, hb8⟩)
    go_ret
    refine ⟨rfl, ?_⟩
    repeat' (first | (with_reducible exact Below.refl _ _) | (with_reducible assumption) | (refine below_step (by assumption) ?_ ?_) | (with_reducible refine below_drewN ?_ _) | (with_reducible refine Below.drew ?_) | (with_reducible refine Below.alloc ?_ ?_ _) | (with_reducible refine Below.setCell ?_ ?_ _) | go_size)

end Go.Proofs.Ytdlmdaononclgaa
