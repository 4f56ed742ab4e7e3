import Derived.Test.YtdlmdaononclgaaDoorMB
/- The groups of positions: what they are, and the iterator that yields them. -/
namespace Go.Proofs.YtdlmdaononclgaaDoor
open Go.RowKit
set_option linter.unusedVariables false
set_option linter.unusedSimpArgs false
attribute [local go_sem] Oper.semAt_some

/-- is one of two intervals 1, 2 or 3 times the other? -/
def pairB (a b : Int) : Bool := decide (0 < ratioZ a b) || decide (0 < ratioZ b a)
/-- how many intervals the group takes that begins with interval i: 1 or 2. -/
def manyN (xs : List Int) (i : Nat) : Nat :=
  if i + 2 < xs.length ∧ pairB (ix xs (i + 1) - ix xs i) (ix xs (i + 2) - ix xs (i + 1)) = true then 2 else 1
theorem manyN_pos (xs : List Int) (i : Nat) : 1 ≤ manyN xs i := by unfold manyN; split <;> omega
theorem manyN_le (xs : List Int) (i : Nat) : manyN xs i ≤ 2 := by unfold manyN; split <;> omega
/-- the groups from interval i on, with fuel. -/
def grp (xs : List Int) : Nat → Nat → List (Int × Int)
  | 0, _ => []
  | f + 1, i => if i + 1 < xs.length then ((i : Int), (manyN xs i : Int)) :: grp xs f (i + manyN xs i) else []
def groupsZ (xs : List Int) : List (Int × Int) := grp xs xs.length 0

theorem grp_step {xs : List Int} {f i : Nat} (hf : xs.length ≤ f + i) (hi : i + 1 < xs.length) :
    ∃ f', grp xs f i = ((i : Int), (manyN xs i : Int)) :: grp xs f' (i + manyN xs i) ∧ xs.length ≤ f' + (i + manyN xs i) := by
  obtain ⟨f', rfl⟩ : ∃ f', f = f' + 1 := ⟨f - 1, by omega⟩
  have := manyN_pos xs i
  exact ⟨f', by rw [grp, if_pos hi], by omega⟩
theorem grp_end {xs : List Int} {f i : Nat} (hi : ¬ i + 1 < xs.length) : grp xs f i = [] := by
  cases f with
  | zero => rfl
  | succ f => rw [grp, if_neg hi]
theorem drop_cons {α : Type} {l : List α} {k : Nat} {x : α} {r : List α} (h : l.drop k = x :: r) : l[k]? = some x ∧ l.drop (k + 1) = r := by
  constructor
  · have := congrArg (fun l => l[0]?) h
    simpa [List.getElem?_drop] using this
  · rw [← List.drop_drop, h]; rfl

/-- a group as a value. -/
def encG (x : Int × Int) : Array Value := #[.agg #[.int .i64 x.1, .int .i64 x.2]]

/-- what the iterator reads: the box with the positions, and these; Y spares them. -/
structure HG (q : Nat) (xs : List Int) (A : Option Addr) (c : Nat) (Y : Nat → Prop) (W : World) : Prop where
  box : W.cell? ⟨q, 0, none⟩ = some (.slice A xs.length c)
  qlt : q < W.heap.size
  qY : ¬ Y q
  cells : ∃ b off, A = some ⟨b, off, none⟩ ∧ b < W.heap.size ∧ ¬ Y b ∧ ∀ j, j < xs.length → W.cell? ⟨b, off + j, none⟩ = some (.int .i64 (ix xs j))

theorem OkP.dif {many most : Int} {xs : List Int} (h : OkP many most xs) (j : Nat) (hj : j + 1 < xs.length) : 0 < ix xs (j + 1) - ix xs j ∧ ix xs (j + 1) - ix xs j ≤ most := by
  have a := h.inc j (by omega)
  have b := h.lo j (by omega)
  have d := h.hi' (j + 1) (by omega)
  omega

set_option maxHeartbeats 2000000 in
set_option maxRecDepth 4000 in
theorem groups1_yields (n : Nat) (q : Nat) (xs : List Int) (A : Option Addr) (c : Nat) (hP : OkP 9 100000 xs) (hc : xs.length ≤ c) (hm : c ≤ 9223372036854775807) :
    Yields Fence.wide n Tryd.prog 70 #[.pointer (some ⟨q, 0, none⟩)] encG (groupsZ xs) (HG q xs A c) := by
  intro l J Jx Y W hJ hJx hY hYlt hlW hH h0
  obtain ⟨hbox, hq, hqY, b, off, rfl, hb, hbY, hcell⟩ := hH
  have hlen : xs.length ≤ 9 := by have := hP.many; omega
  refine callsIn_of_wp Tryd.func70 rfl trivial ?_ rfl
  simp only [Tryd.ntmps70, List.size_toArray, List.length_cons, List.length_nil, Nat.reduceAdd, Nat.reduceSub, Array.replicate_succ, Array.replicate_zero, List.push_toArray, List.append_toArray, List.nil_append, List.cons_append]
  gi_wp2
  gi_loopw [3] (fun v wr => ∃ (k i f : Nat) (Y' : Nat → Prop), v = .int .i64 i ∧ i ≤ 9 ∧ (groupsZ xs).drop k = grp xs f i ∧ k ≤ (groupsZ xs).length ∧ xs.length ≤ f + i ∧ J k Y' wr ∧ (∀ k, Y' k → k < wr.heap.size) ∧ ¬ Y' q ∧ ¬ Y' b ∧ W.heap.size ≤ wr.heap.size ∧ wr.cell? ⟨q, 0, none⟩ = W.cell? ⟨q, 0, none⟩ ∧ ∀ j, wr.cell? ⟨b, j, none⟩ = W.cell? ⟨b, j, none⟩)
    (fun v _ => 10 - (intOf v).toNat)
  case atStart => exact ⟨0, 0, xs.length, Y, rfl, by omega, rfl, Nat.zero_le _, by omega, h0, hYlt, fun h => hqY (.inl h), fun h => hbY (.inl h), Nat.le_refl _, rfl, fun _ => rfl⟩
  case round =>
    obtain ⟨k, i, f, Y', rfl, hi9, hdrop, hk, hf, hj, hlt, hqn, hbn, hsz, hcq, hcb⟩ := hrel
    have hq' : q < wr.heap.size := by omega
    have hb' : b < wr.heap.size := by omega
    have hbox' : wr.cell? ⟨q, 0, none⟩ = some (.slice (some ⟨b, off, none⟩) xs.length c) := hcq.trans hbox
    have HC := Lib.hid (fun (j : Nat) (hj : j < xs.length) => (hcb (off + j)).trans (hcell j hj))
    have HCB := Lib.hid hcb
    have HD := Lib.hid hdrop
    have HJ := Lib.hid hJ
    have HY := Lib.hid hY
    have HLT := Lib.hid hlt
    have HCQ := Lib.hid hcq
    clear hcb hdrop hcell hJ hJx hY hlt hYlt hcq hbox
    by_cases h1 : i + 1 < xs.length
    · obtain ⟨f', hg, hf'⟩ := grp_step hf h1
      obtain ⟨hx, hr⟩ := drop_cons (HD.out.trans hg)
      clear hg
      by_cases h2 : i + 2 < xs.length
      · have f0 := hP.lo i (by omega)
        have f1 := hP.dif i (by omega)
        have f2 := hP.dif (i + 1) (by omega)
        have g0 := hP.hi' i (by omega)
        have g1 := hP.hi' (i + 1) (by omega)
        have g2 := hP.hi' (i + 2) (by omega)
        rw [show i + 1 + 1 = i + 2 from rfl] at f2
        obtain ⟨d1, hd1⟩ : ∃ d, ix xs (i + 1) - ix xs i = d := ⟨_, rfl⟩
        obtain ⟨d2, hd2⟩ : ∃ d, ix xs (i + 2) - ix xs (i + 1) = d := ⟨_, rfl⟩
        rw [hd1] at f1
        rw [hd2] at f2
        have H1 := Lib.hid hd1
        have H2 := Lib.hid hd2
        have e1 : IntKind.i64.wrap (ix xs (i + 1) - ix xs i) = d1 := by rw [hd1]; exact IntWalk.i64_in _ ⟨by omega, by omega⟩
        have e2 : IntKind.i64.wrap (ix xs (i + 2) - ix xs (i + 1)) = d2 := by rw [hd2]; exact IntWalk.i64_in _ ⟨by omega, by omega⟩
        have y0 := HC.out i (by omega)
        have y1 := HC.out (i + 1) (by omega)
        have y2 := HC.out (i + 2) (by omega)
        clear f0 g0 g1 g2
        obtain ⟨f11, f12⟩ := f1
        obtain ⟨f21, f22⟩ := f2
        by_cases r1 : 0 < ratioZ d1 d2
        · have q1 : decide (0 < ratioZ d1 d2) = true := decide_eq_true r1
          have hm1 : manyN xs i = 2 := by unfold manyN; rw [if_pos ⟨h2, by rw [H1.out, H2.out]; simp only [pairB]; simp [*]⟩]
          rw [hm1] at hx hr hf'
          have hx' : (groupsZ xs)[k]? = some ((i : Int), 2) := hx
          have HX := Lib.hid hx'
          have HR := Lib.hid hr
          clear hx hx' hr hm1
          gi_wp2
          gi_quiet (fail)
          gi_wp2_with (first | ((first | refine ⟨trivial, fun h => wide_depth h, ?_⟩ | refine ⟨trivial, ?_⟩); gi_at_call 59; (with_reducible refine (callsIn_wide.2 (ratio_any _ _ (by omega) (by omega) (by omega) (by omega) _)).mono ?_); rintro e w' ⟨rfl, rfl⟩) | (refine ⟨trivial, ?_⟩; go_at_K))
          obtain ⟨fn, tmps, assign, body, hy, hR⟩ := HY.out k _ Y' (((wr.alloc (.cells #[.int .i64 i, .int .i64 1] 72)).drewN nq).setCell ⟨wr.heap.size, 1, none⟩ (.int .i64 2)) HX.out (HJ.out _ _ _ _ hj ((((Keep.refl _ _ _).alloc _).drewN _).setCell (p := ⟨wr.heap.size, 1, none⟩) hsz (fun h => absurd (HLT.out _ h) (Nat.lt_irrefl _)) _)) (fun j hj => by have := HLT.out j hj; simp [hsz_drewN]; omega)
          simp only [encG] at hy
          go_simp
          refine ⟨fun h => absurd h (by simp [Fence.wide]), hR.mono ?_⟩
          rintro e W3 (⟨rfl, Y3, hj3, hr3⟩ | ⟨rfl, Y3, hjx3⟩)
          · have nq : ¬ orL Y' l q := fun h => h.elim hqn (fun h => hqY (.inr h))
            have nb : ¬ orL Y' l b := fun h => h.elim hbn (fun h => hbY (.inr h))
            have ng : ¬ orL Y' l wr.heap.size := fun h => h.elim (fun h => by have := HLT.out _ h; omega) (fun h => by omega)
            have cq := hr3.cell (p := ⟨q, 0, none⟩) (by simp [hsz_drewN]; omega) nq
            have cb := fun j => hr3.cell (p := ⟨b, j, none⟩) (by simp [hsz_drewN]; omega) nb
            have cg := hr3.cell (p := ⟨wr.heap.size, 1, none⟩) (by simp [hsz_drewN]) ng
            have cg' : W3.cell? ⟨wr.heap.size, 1, none⟩ = some (.int .i64 2) := by rw [cg]; simp [go_sem]
            have hs3 := hr3.size
            simp only [World.size_alloc, World.size_setCell, hsz_drewN] at hs3
            have hn3 : wr.heap.size < W3.heap.size := by omega
            have CQ := Lib.hid cq
            have CB := Lib.hid cb
            have R3 := Lib.hid hr3
            clear cq cb cg hr3 hy hR
            gi_wp2
            go_roundw
            case rel =>
              have hk1 : k < (groupsZ xs).length := (List.getElem?_eq_some_iff.1 HX.out).1
              refine ⟨k + 1, i + 2, f', Y3, by first | rfl | go_num, by omega, HR.out, by omega, hf', hj3, fun j hj => R3.out.lt j (.inl hj), fun h => (R3.out.out (by simp [hsz_drewN]; omega) nq) (.inl h), fun h => (R3.out.out (by simp [hsz_drewN]; omega) nb) (.inl h), by omega, ?_, fun j => ?_⟩
              · rw [CQ.out]; simp [go_sem, *]; first | exact HCQ.out | (rw [← HCQ.out]; simp [go_sem, *])
              · rw [CB.out]; rw [← HCB.out j]; simp [go_sem, *]
            case measure => simp [intOf]; omega
          · gi_wp2
            refine bodyPost_ret (results_none rfl _ _ _) rfl ?_
            exact ⟨⟨_, rfl⟩, .inr ⟨_, _, hjx3⟩⟩
        · have q1 : decide (0 < ratioZ d1 d2) = false := decide_eq_false r1
          by_cases r2 : 0 < ratioZ d2 d1
          · have q2 : decide (0 < ratioZ d2 d1) = true := decide_eq_true r2
            have hm1 : manyN xs i = 2 := by unfold manyN; rw [if_pos ⟨h2, by rw [H1.out, H2.out]; simp only [pairB]; simp [*]⟩]
            rw [hm1] at hx hr hf'
            have hx' : (groupsZ xs)[k]? = some ((i : Int), 2) := hx
            have HX := Lib.hid hx'
            have HR := Lib.hid hr
            clear hx hx' hr hm1
            gi_wp2
            gi_quiet (fail)
            gi_wp2_with (first | ((first | refine ⟨trivial, fun h => wide_depth h, ?_⟩ | refine ⟨trivial, ?_⟩); gi_at_call 59; (with_reducible refine (callsIn_wide.2 (ratio_any _ _ (by omega) (by omega) (by omega) (by omega) _)).mono ?_); rintro e w' ⟨rfl, rfl⟩) | (refine ⟨trivial, ?_⟩; go_at_K))
            obtain ⟨fn, tmps, assign, body, hy, hR⟩ := HY.out k _ Y' (((wr.alloc (.cells #[.int .i64 i, .int .i64 1] 72)).drewN nq).setCell ⟨wr.heap.size, 1, none⟩ (.int .i64 2)) HX.out (HJ.out _ _ _ _ hj ((((Keep.refl _ _ _).alloc _).drewN _).setCell (p := ⟨wr.heap.size, 1, none⟩) hsz (fun h => absurd (HLT.out _ h) (Nat.lt_irrefl _)) _)) (fun j hj => by have := HLT.out j hj; simp [hsz_drewN]; omega)
            simp only [encG] at hy
            go_simp
            refine ⟨fun h => absurd h (by simp [Fence.wide]), hR.mono ?_⟩
            rintro e W3 (⟨rfl, Y3, hj3, hr3⟩ | ⟨rfl, Y3, hjx3⟩)
            · have nq : ¬ orL Y' l q := fun h => h.elim hqn (fun h => hqY (.inr h))
              have nb : ¬ orL Y' l b := fun h => h.elim hbn (fun h => hbY (.inr h))
              have ng : ¬ orL Y' l wr.heap.size := fun h => h.elim (fun h => by have := HLT.out _ h; omega) (fun h => by omega)
              have cq := hr3.cell (p := ⟨q, 0, none⟩) (by simp [hsz_drewN]; omega) nq
              have cb := fun j => hr3.cell (p := ⟨b, j, none⟩) (by simp [hsz_drewN]; omega) nb
              have cg := hr3.cell (p := ⟨wr.heap.size, 1, none⟩) (by simp [hsz_drewN]) ng
              have cg' : W3.cell? ⟨wr.heap.size, 1, none⟩ = some (.int .i64 2) := by rw [cg]; simp [go_sem]
              have hs3 := hr3.size
              simp only [World.size_alloc, World.size_setCell, hsz_drewN] at hs3
              have hn3 : wr.heap.size < W3.heap.size := by omega
              have CQ := Lib.hid cq
              have CB := Lib.hid cb
              have R3 := Lib.hid hr3
              clear cq cb cg hr3 hy hR
              gi_wp2
              go_roundw
              case rel =>
                have hk1 : k < (groupsZ xs).length := (List.getElem?_eq_some_iff.1 HX.out).1
                refine ⟨k + 1, i + 2, f', Y3, by first | rfl | go_num, by omega, HR.out, by omega, hf', hj3, fun j hj => R3.out.lt j (.inl hj), fun h => (R3.out.out (by simp [hsz_drewN]; omega) nq) (.inl h), fun h => (R3.out.out (by simp [hsz_drewN]; omega) nb) (.inl h), by omega, ?_, fun j => ?_⟩
                · rw [CQ.out]; simp [go_sem, *]; first | exact HCQ.out | (rw [← HCQ.out]; simp [go_sem, *])
                · rw [CB.out]; rw [← HCB.out j]; simp [go_sem, *]
              case measure => simp [intOf]; omega
            · gi_wp2
              refine bodyPost_ret (results_none rfl _ _ _) rfl ?_
              exact ⟨⟨_, rfl⟩, .inr ⟨_, _, hjx3⟩⟩
          · have q2 : decide (0 < ratioZ d2 d1) = false := decide_eq_false r2
            have hm1 : manyN xs i = 1 := by unfold manyN; rw [if_neg (fun h => by have h' := h.2; rw [H1.out, H2.out] at h'; simp only [pairB] at h'; simp [*] at h')]
            rw [hm1] at hx hr hf'
            have hx' : (groupsZ xs)[k]? = some ((i : Int), 1) := hx
            have HX := Lib.hid hx'
            have HR := Lib.hid hr
            clear hx hx' hr hm1
            gi_wp2
            gi_quiet (fail)
            gi_wp2_with (first | ((first | refine ⟨trivial, fun h => wide_depth h, ?_⟩ | refine ⟨trivial, ?_⟩); gi_at_call 59; (with_reducible refine (callsIn_wide.2 (ratio_any _ _ (by omega) (by omega) (by omega) (by omega) _)).mono ?_); rintro e w' ⟨rfl, rfl⟩) | (refine ⟨trivial, ?_⟩; go_at_K))
            obtain ⟨fn, tmps, assign, body, hy, hR⟩ := HY.out k _ Y' ((wr.alloc (.cells #[.int .i64 i, .int .i64 1] 72)).drewN nq) HX.out (HJ.out _ _ _ _ hj (((Keep.refl _ _ _).alloc _).drewN _)) (fun j hj => by have := HLT.out j hj; simp [hsz_drewN]; omega)
            simp only [encG] at hy
            go_simp
            refine ⟨fun h => absurd h (by simp [Fence.wide]), hR.mono ?_⟩
            rintro e W3 (⟨rfl, Y3, hj3, hr3⟩ | ⟨rfl, Y3, hjx3⟩)
            · have nq : ¬ orL Y' l q := fun h => h.elim hqn (fun h => hqY (.inr h))
              have nb : ¬ orL Y' l b := fun h => h.elim hbn (fun h => hbY (.inr h))
              have ng : ¬ orL Y' l wr.heap.size := fun h => h.elim (fun h => by have := HLT.out _ h; omega) (fun h => by omega)
              have cq := hr3.cell (p := ⟨q, 0, none⟩) (by simp [hsz_drewN]; omega) nq
              have cb := fun j => hr3.cell (p := ⟨b, j, none⟩) (by simp [hsz_drewN]; omega) nb
              have cg := hr3.cell (p := ⟨wr.heap.size, 1, none⟩) (by simp [hsz_drewN]) ng
              have cg' : W3.cell? ⟨wr.heap.size, 1, none⟩ = some (.int .i64 1) := by rw [cg]; simp [go_sem]
              have hs3 := hr3.size
              simp only [World.size_alloc, World.size_setCell, hsz_drewN] at hs3
              have hn3 : wr.heap.size < W3.heap.size := by omega
              have CQ := Lib.hid cq
              have CB := Lib.hid cb
              have R3 := Lib.hid hr3
              clear cq cb cg hr3 hy hR
              gi_wp2
              go_roundw
              case rel =>
                have hk1 : k < (groupsZ xs).length := (List.getElem?_eq_some_iff.1 HX.out).1
                refine ⟨k + 1, i + 1, f', Y3, by first | rfl | go_num, by omega, HR.out, by omega, hf', hj3, fun j hj => R3.out.lt j (.inl hj), fun h => (R3.out.out (by simp [hsz_drewN]; omega) nq) (.inl h), fun h => (R3.out.out (by simp [hsz_drewN]; omega) nb) (.inl h), by omega, ?_, fun j => ?_⟩
                · rw [CQ.out]; simp [go_sem, *]; first | exact HCQ.out | (rw [← HCQ.out]; simp [go_sem, *])
                · rw [CB.out]; rw [← HCB.out j]; simp [go_sem, *]
              case measure => simp [intOf]; omega
            · gi_wp2
              refine bodyPost_ret (results_none rfl _ _ _) rfl ?_
              exact ⟨⟨_, rfl⟩, .inr ⟨_, _, hjx3⟩⟩
      · have hm1 : manyN xs i = 1 := by unfold manyN; rw [if_neg (fun h => h2 h.1)]
        rw [hm1] at hx hr hf'
        have hx' : (groupsZ xs)[k]? = some ((i : Int), 1) := hx
        have HX := Lib.hid hx'
        have HR := Lib.hid hr
        clear hx hx' hr hm1
        gi_wp2_with fail
        obtain ⟨fn, tmps, assign, body, hy, hR⟩ := HY.out k _ Y' (wr.alloc (.cells #[.int .i64 i, .int .i64 1] 72)) HX.out (HJ.out _ _ _ _ hj ((Keep.refl _ _ _).alloc _)) (fun j hj => by have := HLT.out j hj; simp [hsz_drewN]; omega)
        simp only [encG] at hy
        go_simp
        refine ⟨fun h => absurd h (by simp [Fence.wide]), hR.mono ?_⟩
        rintro e W3 (⟨rfl, Y3, hj3, hr3⟩ | ⟨rfl, Y3, hjx3⟩)
        · have nq : ¬ orL Y' l q := fun h => h.elim hqn (fun h => hqY (.inr h))
          have nb : ¬ orL Y' l b := fun h => h.elim hbn (fun h => hbY (.inr h))
          have ng : ¬ orL Y' l wr.heap.size := fun h => h.elim (fun h => by have := HLT.out _ h; omega) (fun h => by omega)
          have cq := hr3.cell (p := ⟨q, 0, none⟩) (by simp [hsz_drewN]; omega) nq
          have cb := fun j => hr3.cell (p := ⟨b, j, none⟩) (by simp [hsz_drewN]; omega) nb
          have cg := hr3.cell (p := ⟨wr.heap.size, 1, none⟩) (by simp [hsz_drewN]) ng
          have cg' : W3.cell? ⟨wr.heap.size, 1, none⟩ = some (.int .i64 1) := by rw [cg]; simp [go_sem]
          have hs3 := hr3.size
          simp only [World.size_alloc, World.size_setCell, hsz_drewN] at hs3
          have hn3 : wr.heap.size < W3.heap.size := by omega
          have CQ := Lib.hid cq
          have CB := Lib.hid cb
          have R3 := Lib.hid hr3
          clear cq cb cg hr3 hy hR
          gi_wp2
          go_roundw
          case rel =>
            have hk1 : k < (groupsZ xs).length := (List.getElem?_eq_some_iff.1 HX.out).1
            refine ⟨k + 1, i + 1, f', Y3, by first | rfl | go_num, by omega, HR.out, by omega, hf', hj3, fun j hj => R3.out.lt j (.inl hj), fun h => (R3.out.out (by simp [hsz_drewN]; omega) nq) (.inl h), fun h => (R3.out.out (by simp [hsz_drewN]; omega) nb) (.inl h), by omega, ?_, fun j => ?_⟩
            · rw [CQ.out]; simp [go_sem, *]; first | exact HCQ.out | (rw [← HCQ.out]; simp [go_sem, *])
            · rw [CB.out]; rw [← HCB.out j]; simp [go_sem, *]
          case measure => simp [intOf]; omega
        · gi_wp2
          refine bodyPost_ret (results_none rfl _ _ _) rfl ?_
          exact ⟨⟨_, rfl⟩, .inr ⟨_, _, hjx3⟩⟩
    · gi_wp2
      go_end0
      refine ⟨⟨_, rfl⟩, .inl ⟨Y', ?_⟩⟩
      have e := HD.out
      rw [grp_end h1] at e
      have := List.drop_eq_nil_iff.1 e
      rw [show (groupsZ xs).length = k by omega]
      exact hj

end Go.Proofs.YtdlmdaononclgaaDoor
