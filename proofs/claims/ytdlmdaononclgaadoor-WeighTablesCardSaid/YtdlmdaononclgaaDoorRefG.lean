import Derived.Test.YtdlmdaononclgaaDoorPl
/- The reference's groups. -/
namespace Go.Proofs.YtdlmdaononclgaaDoor
open Go.RowKit
set_option linter.unusedVariables false
set_option linter.unusedSimpArgs false

/-- groups as cells. -/
def gcells (gs : List (Int × Int)) : List Value := gs.flatMap fun p => [.int .i64 p.1, .int .i64 p.2]
theorem gcells_nil : gcells [] = [] := rfl
theorem gcells_append (a b : List (Int × Int)) : gcells (a ++ b) = gcells a ++ gcells b := List.flatMap_append
theorem gcells_length : ∀ gs : List (Int × Int), (gcells gs).length = gs.length * 2
  | [] => rfl
  | p :: gs => by rw [gcells, List.flatMap_cons, List.length_append, ← gcells, gcells_length gs]; simp; omega
/-- the group at an index. -/
def gx (gs : List (Int × Int)) (i : Nat) : Int × Int := gs.getD i (0, 0)
theorem gx_get {gs : List (Int × Int)} {i : Nat} (h : i < gs.length) : gs[i]? = some (gx gs i) := by simp [gx, List.getD, List.getElem?_eq_getElem h]
theorem gcells_at : ∀ {gs : List (Int × Int)} {i : Nat}, i < gs.length → (gcells gs)[i * 2]? = some (.int .i64 (gx gs i).1) ∧ (gcells gs)[i * 2 + 1]? = some (.int .i64 (gx gs i).2)
  | p :: gs, 0, _ => ⟨rfl, rfl⟩
  | p :: gs, i + 1, h => by
    have := gcells_at (gs := gs) (i := i) (by simpa using h)
    have e : gcells (p :: gs) = .int .i64 p.1 :: .int .i64 p.2 :: gcells gs := rfl
    rw [e, show (i + 1) * 2 = i * 2 + 1 + 1 by omega]
    simpa [gx] using this

/-- the slice value v is the call's own (from block base on) and holds the groups gs. -/
def OwnG (w : World) (base : Nat) (v : Value) (gs : List (Int × Int)) : Prop := w.ownsRow base 72 2 v gs.length (gcells gs)
theorem OwnG.nil (w : World) (base : Nat) : OwnG w base (.slice none 0 0) [] := World.ownsRow_nil w base _ _
theorem OwnG.kept {w w' : World} {base : Nat} {v : Value} {gs : List (Int × Int)} (h : OwnG w base v gs) {B : Nat} (hb : Below B w w') (hB : w.heap.size ≤ B) : OwnG w' base v gs := by
  refine ⟨h.1, ?_⟩
  rcases h.2 with hn | ⟨g, cap, cur, rfl, h1, hg, rest⟩
  · exact .inl hn
  · exact .inr ⟨g, cap, cur, rfl, h1, (hb.block g (by have := (Array.getElem?_eq_some_iff.1 hg).1; omega)).trans hg, rest⟩
/-- groups that lie below block B. -/
def GD (w : World) (B : Nat) (A : Option Addr) (gs : List (Int × Int)) : Prop := RD w B A (gcells gs)
theorem GD.at {w : World} {B : Nat} {A : Option Addr} {gs : List (Int × Int)} (h : GD w B A gs) (hp : 0 < gs.length) :
    ∃ b off, A = some ⟨b, off, none⟩ ∧ b < B ∧ ∀ i, i < gs.length → w.cell? ⟨b, off + i * 2, none⟩ = some (.int .i64 (gx gs i).1) ∧ w.cell? ⟨b, off + i * 2 + 1, none⟩ = some (.int .i64 (gx gs i).2) := by
  rcases h with h | ⟨b, off, rfl, hlt, hc⟩
  · have := congrArg List.length h; rw [gcells_length] at this; simp only [List.length_nil] at this; omega
  · refine ⟨b, off, rfl, hlt, fun i hi => ⟨hc _ _ (gcells_at hi).1, ?_⟩⟩
    rw [Nat.add_assoc]; exact hc _ _ (gcells_at hi).2
theorem OwnG.form {w : World} {base : Nat} {v : Value} {gs : List (Int × Int)} (h : OwnG w base v gs) :
    ∃ A cap, v = .slice A gs.length cap ∧ gs.length ≤ cap ∧ cap ≤ 9223372036854775807 ∧ GD w w.heap.size A gs ∧ (∀ b off, A = some ⟨b, off, none⟩ → base ≤ b ∧ v.ownBlock = some b) ∧ (∀ b, v.ownBlock = some b → base ≤ b ∧ b < w.heap.size) := by
  rcases h.2 with ⟨rfl, hn⟩ | ⟨g, cap, cur, rfl, hb, hg, hn, hm, hs, ht⟩
  · have : gs = [] := List.eq_nil_of_length_eq_zero hn
    subst this
    exact ⟨none, 0, rfl, by simp, by omega, .inl rfl, (fun b off e => by cases e), (fun b e => by cases e)⟩
  · have hlt : g < w.heap.size := (Array.getElem?_eq_some_iff.1 hg).1
    refine ⟨some ⟨g, 0, none⟩, cap, rfl, hn, by unfold maxLen at hm; omega, ?_, (fun b off e => by cases e; exact ⟨hb, rfl⟩), (fun b e => by simp only [Value.ownBlock, Option.some.injEq] at e; omega)⟩
    by_cases h0 : gs.length = 0
    · left; have : gs = [] := List.eq_nil_of_length_eq_zero h0; subst this; rfl
    · refine .inr ⟨g, 0, rfl, hlt, fun j v hv => ?_⟩
      have := h.cells (g := g) rfl j v hv
      rwa [Addr.add_lit] at this

theorem infoGroup : (Tryd.prog.info? 72).map (fun i => (i.zero, i.size, i.bytes)) = some (some (.agg #[.int .i64 0, .int .i64 0]), 2, 16) := by kernel_rfl

variable {w : World}
/-- appending one group to an own slice. -/
theorem wpList_appG {ops : Array Oper} {rest : List Oper} {o : Oper} {a : Act} {Q : Exit → Act → World → Prop} (hgd : o.guard = none) (s x : Operand)
    (ho : o.op = .call { callee := .builtin .append, args := #[s, x], argTypes := #[69, 69] })
    (base : Nat) (v : Value) (gs : List (Int × Int)) (hs : a.eval s = v) (hown : OwnG w base v gs) (g c : Nat) (y z : Int) (hx : a.eval x = .slice (some ⟨g, 0, none⟩) 1 c)
    (hc0 : w.cell? ⟨g, 0, none⟩ = some (.int .i64 y)) (hc1 : w.cell? ⟨g, 1, none⟩ = some (.int .i64 z))
    (hlen : gs.length ≤ 1000000) (hbase : base ≤ w.heap.size)
    (h : ∀ v' w', OwnG w' base v' (gs ++ [(y, z)]) → w.grownBy w' v.ownBlock → (v'.ownBlock = v.ownBlock ∨ v'.ownBlock = some w.heap.size) → wpList Tryd.prog ops Q rest (a.put o.dst v') w') : wpList Tryd.prog ops Q (o :: rest) a w := by
  obtain ⟨i0, hi, hz0, hz1, hz2⟩ := info_parts infoGroup
  refine wpList_plain hgd fun K hK => ?_
  obtain ⟨v', w', hrun, h2, h3, _, h5⟩ := run_append_own_at (P := Tryd.prog) w base 69 o.type 72 i0 _ 2 16 Tryd.underlying69 hi hz0 hz1 hz2 rfl (by decide) v gs.length (gcells gs) hown
    ⟨g, 0, none⟩ 1 c [.int .i64 y, .int .i64 z] rfl (fun j u hu => by
      match j, hu with
      | 0, hu => simp at hu; subst hu; exact hc0
      | 1, hu => simp at hu; subst hu; exact hc1) (by simp [Value.oneCell']) (by unfold maxLen; omega) (by omega) hbase
  unfold Oper.wp execOp
  simp only [ho, resolve, invoke, builtin, Sem.run_bind, Sem.run_pure, Result.andThen_ok, List.map_toArray, List.map_cons, List.map_nil, hs, hx, hrun]
  refine hK _ _ (h v' w' ?_ h3 h5)
  unfold OwnG
  rw [List.length_append, gcells_append]
  exact h2
theorem appG_below {w0 wr W2 w1 : World} {v : Value} {gs : List (Int × Int)} (hB : Below w0.heap.size w0 wr) (h2 : Below wr.heap.size wr W2) (ho : OwnG wr w0.heap.size v gs) (hg : W2.grownBy w1 v.ownBlock) : Below w0.heap.size w0 w1 := by
  obtain ⟨A, cap, rfl, _, _, _, _, h⟩ := ho.form
  exact (below_step h2 hB hB.size).grown hg (by have := hB.size; have := h2.size; omega) (fun k e => (h k e).1)
theorem cells_new2 (w : World) (a b : Value) (t : TypeId) : (w.alloc (.cells #[a, b] t)).cell? ⟨w.heap.size, 0, none⟩ = some a ∧ (w.alloc (.cells #[a, b] t)).cell? ⟨w.heap.size, 1, none⟩ = some b := by
  constructor <;> (rw [cell_of_row _ w.heap.size _ _ _ _ (heap_alloc_new w _)]; rfl)

/-- the reference's test of two intervals is the program's. -/
theorem timesZ_pair {a b : Int} (ha : 0 < a) (hb : 0 < b) : decide (0 < timesZ a b) = pairB a b := by
  cases hp : pairB a b with
  | true =>
    rcases pair_cases ha hb hp with ⟨e, _⟩ | ⟨e, _⟩ | ⟨e, _⟩ | ⟨e, _⟩ | ⟨e, _⟩ <;> (refine decide_eq_true ?_; unfold timesZ; (repeat' split) <;> omega)
  | false =>
    refine decide_eq_false fun h => ?_
    have key : ∀ {a b k : Int}, 0 < a → 1 ≤ k → k ≤ 3 → b = k * a → 0 < ratioZ a b := by
      intro a b k ha h1 h3 e
      subst e
      unfold ratioZ
      rw [Int.mul_emod_left, Int.mul_ediv_cancel _ (by omega), if_pos ⟨rfl, h3⟩]; omega
    have yes : ∀ {x : Bool}, x = false → (0 < ratioZ a b ∨ 0 < ratioZ b a) → False := fun _ h => by
      simp only [pairB, Bool.or_eq_false_iff, decide_eq_false_iff_not] at hp
      rcases h with h | h
      · exact hp.1 h
      · exact hp.2 h
    refine yes (x := false) rfl ?_
    unfold timesZ at h
    split at h
    · rename_i e; exact .inl (key (k := 1) ha (by omega) (by omega) (by omega))
    · split at h
      · rename_i e
        rcases e with e | e
        · exact .inl (key (k := 2) ha (by omega) (by omega) (by omega))
        · exact .inr (key (k := 2) hb (by omega) (by omega) (by omega))
      · split at h
        · rename_i e
          rcases e with e | e
          · exact .inl (key (k := 3) ha (by omega) (by omega) (by omega))
          · exact .inr (key (k := 3) hb (by omega) (by omega) (by omega))
        · omega

/-- what the reference's groups hands back. -/
def RetG (gs : List (Int × Int)) (w : World) (e : Ending) (w' : World) : Prop := ∃ v, e = .returned v ∧ OwnG w' w.heap.size v gs ∧ Below w.heap.size w w'

set_option maxHeartbeats 2000000 in
set_option maxRecDepth 4000 in
theorem refgroups_any (xs : List Int) (A : Option Addr) (c : Nat) (hP : OkP 9 100000 xs) (hc : xs.length ≤ c) (hm : c ≤ 9223372036854775807) (w : World) (h : RD w w.heap.size A (ints xs)) :
    Calls Tryd.prog 38 #[.slice A xs.length c] w (RetG (groupsZ xs) w) := by
  have hlen : xs.length ≤ 9 := by have := hP.many; omega
  have hl2 := hP.two
  obtain ⟨b, off, rfl, hb, hcell⟩ := h.ints (by omega)
  have HC := Lib.hid hcell
  clear hcell h
  go_enter Tryd.func38, Tryd.ntmps38
  go_wp2
  go_loopw [3, 4] (fun v x wr => ∃ (pre : List (Int × Int)) (i f : Nat), x = .int .i64 i ∧ i ≤ 9 ∧ pre.length ≤ i ∧ groupsZ xs = pre ++ grp xs f i ∧ xs.length ≤ f + i ∧ OwnG wr w.heap.size v pre ∧ Below w.heap.size w wr) (fun _ x _ => 10 - (intOf x).toNat)
  case atStart => exact ⟨[], 0, xs.length, rfl, by omega, by simp, rfl, by omega, OwnG.nil _ _, Below.refl _ _⟩
  case round =>
    obtain ⟨pre, i, f, rfl, hi9, hpl, hg, hf, hown, hbl⟩ := hrel
    by_cases h1 : i + 1 < xs.length
    · obtain ⟨f', hg', hf'⟩ := grp_step hf h1
      rw [hg'] at hg
      have HG := Lib.hid hg
      have HO := Lib.hid hown
      have HB := Lib.hid hbl
      have hs := hbl.size
      clear hg hown hbl hg'
      by_cases h2 : i + 2 < xs.length
      · have f0 := hP.lo i (by omega)
        have f1 := hP.dif i (by omega)
        have f2 := hP.dif (i + 1) (by omega)
        have g0 := hP.hi' i (by omega)
        have g1 := hP.hi' (i + 1) (by omega)
        have g2 := hP.hi' (i + 2) (by omega)
        rw [show i + 1 + 1 = i + 2 from rfl] at f2
        obtain ⟨d1, hd1⟩ : ∃ d, ix xs (i + 1) - ix xs i = d := ⟨_, rfl⟩
        obtain ⟨d2, hd2⟩ : ∃ d, ix xs (i + 2) - ix xs (i + 1) = d := ⟨_, rfl⟩
        rw [hd1] at f1
        rw [hd2] at f2
        have e1 : IntKind.i64.wrap (ix xs (i + 1) - ix xs i) = d1 := by rw [hd1]; exact IntWalk.i64_in _ ⟨by omega, by omega⟩
        have e2 : IntKind.i64.wrap (ix xs (i + 2) - ix xs (i + 1)) = d2 := by rw [hd2]; exact IntWalk.i64_in _ ⟨by omega, by omega⟩
        have y0 := (HB.out.cell (p := ⟨b, off + i, none⟩) hb).trans (HC.out i (by omega))
        have y1 := (HB.out.cell (p := ⟨b, off + (i + 1), none⟩) hb).trans (HC.out (i + 1) (by omega))
        have y2 := (HB.out.cell (p := ⟨b, off + (i + 2), none⟩) hb).trans (HC.out (i + 2) (by omega))
        obtain ⟨f11, f12⟩ := f1
        obtain ⟨f21, f22⟩ := f2
        have htp := timesZ_pair f11 f21
        have hmn : manyN xs i = if pairB d1 d2 = true then 2 else 1 := by
          unfold manyN
          rw [hd1, hd2]
          by_cases h : pairB d1 d2 = true
          · rw [if_pos ⟨h2, h⟩, if_pos h]
          · rw [if_neg (fun x => h x.2), if_neg h]
        clear f0 g0 g1 g2 hd1 hd2
        cases hpr : pairB d1 d2 with
        | true =>
          rw [hpr] at htp hmn
          rw [if_pos rfl] at hmn
          have HMN := Lib.hid hmn
          have dd : decide (i + 2 < xs.length) = true := decide_eq_true h2
          have dd' : decide ((i : Int) + 2 < (xs.length : Int)) = true := decide_eq_true (by omega)
          clear hmn hpr
          go_wp2
          go_quiet ((go_at_call 39; exact quiet_left (times_any _ _ (by omega) (by omega) (by omega) (by omega) _)))
          go_wp2_with (at_builtin; refine wpList_appG rfl _ _ rfl w.heap.size _ _ rfl (HO.out.kept (by repeat' (first | (with_reducible exact Below.refl _ _) | (with_reducible assumption) | (refine below_step (by assumption) ?_ ?_) | (with_reducible refine below_drewN ?_ _) | (with_reducible refine Below.drew ?_) | (with_reducible refine Below.alloc ?_ ?_ _) | (with_reducible refine Below.setCell ?_ ?_ _) | go_size)) (Nat.le_refl _)) wr.heap.size 1 _ _ rfl (cells_new2 wr _ _ _).1 (cells_new2 wr _ _ _).2 (by omega) (by simp [hsz_drewN]; omega) ?_; intro v' w1 hown' hgrow _; replace hgrow := appG_below HB.out (by repeat' (first | (with_reducible exact Below.refl _ _) | (with_reducible assumption) | (refine below_step (by assumption) ?_ ?_) | (with_reducible refine below_drewN ?_ _) | (with_reducible refine Below.drew ?_) | (with_reducible refine Below.alloc ?_ ?_ _) | (with_reducible refine Below.setCell ?_ ?_ _) | go_size)) HO.out hgrow)
          exact ⟨⟨pre ++ [((i : Int), 2)], i + 2, f', by go_num, by omega, by simp; omega, by rw [HG.out, HMN.out, List.append_assoc]; rfl, by have := HMN.out; omega, hown', hgrow⟩, by simp [intOf]; omega⟩
        | false =>
          rw [hpr] at htp hmn
          rw [if_neg (by simp)] at hmn
          have HMN := Lib.hid hmn
          have dd : decide (i + 2 < xs.length) = true := decide_eq_true h2
          have dd' : decide ((i : Int) + 2 < (xs.length : Int)) = true := decide_eq_true (by omega)
          clear hmn hpr
          go_wp2
          go_quiet ((go_at_call 39; exact quiet_left (times_any _ _ (by omega) (by omega) (by omega) (by omega) _)))
          go_wp2_with (at_builtin; refine wpList_appG rfl _ _ rfl w.heap.size _ _ rfl (HO.out.kept (by repeat' (first | (with_reducible exact Below.refl _ _) | (with_reducible assumption) | (refine below_step (by assumption) ?_ ?_) | (with_reducible refine below_drewN ?_ _) | (with_reducible refine Below.drew ?_) | (with_reducible refine Below.alloc ?_ ?_ _) | (with_reducible refine Below.setCell ?_ ?_ _) | go_size)) (Nat.le_refl _)) wr.heap.size 1 _ _ rfl (cells_new2 wr _ _ _).1 (cells_new2 wr _ _ _).2 (by omega) (by simp [hsz_drewN]; omega) ?_; intro v' w1 hown' hgrow _; replace hgrow := appG_below HB.out (by repeat' (first | (with_reducible exact Below.refl _ _) | (with_reducible assumption) | (refine below_step (by assumption) ?_ ?_) | (with_reducible refine below_drewN ?_ _) | (with_reducible refine Below.drew ?_) | (with_reducible refine Below.alloc ?_ ?_ _) | (with_reducible refine Below.setCell ?_ ?_ _) | go_size)) HO.out hgrow)
          exact ⟨⟨pre ++ [((i : Int), 1)], i + 1, f', by go_num, by omega, by simp; omega, by rw [HG.out, HMN.out, List.append_assoc]; rfl, by have := HMN.out; omega, hown', hgrow⟩, by simp [intOf]; omega⟩
      · have hmn : manyN xs i = 1 := by unfold manyN; rw [if_neg (fun x => h2 x.1)]
        have HMN := Lib.hid hmn
        have dd : decide (i + 2 < xs.length) = false := decide_eq_false h2
        have dd' : decide ((i : Int) + 2 < (xs.length : Int)) = false := decide_eq_false (by omega)
        clear hmn
        go_wp2
        go_quiet (fail)
        go_wp2_with (at_builtin; refine wpList_appG rfl _ _ rfl w.heap.size _ _ rfl (HO.out.kept (by repeat' (first | (with_reducible exact Below.refl _ _) | (with_reducible assumption) | (refine below_step (by assumption) ?_ ?_) | (with_reducible refine below_drewN ?_ _) | (with_reducible refine Below.drew ?_) | (with_reducible refine Below.alloc ?_ ?_ _) | (with_reducible refine Below.setCell ?_ ?_ _) | go_size)) (Nat.le_refl _)) wr.heap.size 1 _ _ rfl (cells_new2 wr _ _ _).1 (cells_new2 wr _ _ _).2 (by omega) (by simp [hsz_drewN]; omega) ?_; intro v' w1 hown' hgrow _; replace hgrow := appG_below HB.out (by repeat' (first | (with_reducible exact Below.refl _ _) | (with_reducible assumption) | (refine below_step (by assumption) ?_ ?_) | (with_reducible refine below_drewN ?_ _) | (with_reducible refine Below.drew ?_) | (with_reducible refine Below.alloc ?_ ?_ _) | (with_reducible refine Below.setCell ?_ ?_ _) | go_size)) HO.out hgrow)
        exact ⟨⟨pre ++ [((i : Int), 1)], i + 1, f', by go_num, by omega, by simp; omega, by rw [HG.out, HMN.out, List.append_assoc]; rfl, by have := HMN.out; omega, hown', hgrow⟩, by simp [intOf]; omega⟩
    · rw [grp_end h1, List.append_nil] at hg
      have HG := Lib.hid hg
      have HO := Lib.hid hown
      have HB := Lib.hid hbl
      clear hg hown hbl
      go_wp2
      go_ret
      exact ⟨_, rfl, by rw [HG.out]; exact HO.out, HB.out⟩

end Go.Proofs.YtdlmdaononclgaaDoor
