import Derived.Test.YtjflgemfeofciaaGreatDoorMX2
import Derived.WideShapes
/- Slices that are appended to: where they begin, what their values are, how they become data. -/
namespace Go.Ev
open Go
set_option linter.unusedVariables false
set_option linter.unusedSimpArgs false
/-- a value of a slice that is appended to. -/
structure Av (v : V) : Prop where
  any : v.any? = false
  cells : v.cells = [v]
  one : oneV v = true
theorem Av.nil : Av .sn := ⟨rfl, rfl, rfl⟩
theorem Av.of {h : H} {v : V} {s t : Nat} {cs : List V} (k : Res.ok h (.acc v s cs t)) : Av v := by
  rcases k with ⟨rfl, _⟩ | ⟨b, n, rfl | rfl, _, _⟩
  · exact ⟨rfl, rfl, rfl⟩
  · exact ⟨rfl, rfl, rfl⟩
  · exact ⟨rfl, rfl, rfl⟩
theorem Sl.ac {v : V} {b n s : Nat} (hv : v = .su b 0 n s ∨ v = .sl b 0 n n) : Sl v b 0 n := by
  rcases hv with rfl | rfl
  · exact .su
  · exact .sl
theorem Tk.mem {r : Res} {l l' : ML} (h : Tk r l l') : r ∈ l := h.perm.mem_iff.2 List.mem_cons_self
section
variable {P : Program} {nat : Nats} {ro : Option Nat} {N : Nat} {B : Base} {al : AL} {g g0 : G} {ml : ML} {ops l : List Oper} {R : OQ} {Q : AQ} {ds : List D}
theorem St.acc0 {h : H} {s t : Nat} (k : St B g ml h) : St B g (.acc .sn s [] t :: ml) h := by
  have e : fps (.acc .sn s [] t :: ml) = fps ml := by rw [fps_cons]; rfl
  refine { k with own := fun r hr => ?_, nd := by rw [e]; exact k.nd, fresh := fun b hb => k.fresh b (by rw [e] at hb; exact hb) }
  rcases List.mem_cons.1 hr with rfl | hr
  · exact .inl ⟨rfl, rfl⟩
  · exact k.own r hr
theorem Wc.acc {c : Code} (s t : Nat) (k : Wc P nat ro N B c al g (.acc .sn s [] t :: ml) ds Q) : Wc P nat ro N B c al g ml ds Q := fun tm m hk st => k tm m hk st.acc0
theorem Wc.av {c : Code} {v : V} {s t : Nat} {cs : List V} {ml' : ML} (hm : Tk (.acc v s cs t) ml ml') (k : Av v → Wc P nat ro N B c al g ml ds Q) : Wc P nat ro N B c al g ml ds Q := fun tm m hk st => k (Av.of (st.own _ hm.mem)) tm m hk st
theorem Wo.av {v : V} {s t : Nat} {cs : List V} {ml' : ML} (hm : Tk (.acc v s cs t) ml ml') (k : Av v → Wo P nat N B ops l al g ml R) : Wo P nat N B ops l al g ml R := fun tm m hk st => k (Av.of (st.own _ hm.mem)) tm m hk st
theorem Wd.av {v : V} {s t i : Nat} {cs : List V} {ml' : ML} {tb : List Ri} {mu : Option Nat} {rest : List Sg} {ls : List (Nat × Nat)} {ps : List Pd2} (hm : Tk (.acc v s cs t) ml ml') (k : Av v → Wd P nat N B ops l tb i al ((g, ml, mu) :: rest) ls ps R) : Wd P nat N B ops l tb i al ((g, ml, mu) :: rest) ls ps R := fun n0 tm S hk r => by
  obtain ⟨p, l2, e, st, _⟩ := r.hs.head
  exact k (Av.of (st.own _ hm.mem)) n0 tm S hk r
theorem FrS.cons {b k : Nat} {ml : ML} {mo : Option Nat} {r : List Sg} (h : ∀ c, mo = some c → c ≠ b) (hk : FrS B b k r) : FrS B b (k + 1) ((g, ml, mo) :: r) := by
  cases mo with
  | none => exact hk
  | some c => exact ⟨fun _ _ => h c rfl, hk⟩
theorem St.ne {h : H} {v : V} {s t b : Nat} {cs : List V} {x : Blk} {ml1 ml2 : ML} (k : St B g ml h) (h1 : Tk (.acc v s cs t) ml ml1) (h2 : Tk (.blk b x) ml1 ml2) : ∀ c, blkV v = some c → c ≠ b := by
  have k1 := (k.perm h1.perm).perm ((h2.perm).cons _)
  intro c hc e
  subst e
  rcases k1.own _ List.mem_cons_self with ⟨rfl, _⟩ | ⟨b', n, rfl | rfl, _, _⟩
  · cases hc
  · cases hc
    have nd := k1.nd
    rw [fps_cons, fps_cons] at nd
    have nd : (c :: c :: fps ml2).Nodup := nd
    exact (List.nodup_cons.1 nd).1 List.mem_cons_self
  · cases hc
    have nd := k1.nd
    rw [fps_cons, fps_cons] at nd
    have nd : (c :: c :: fps ml2).Nodup := nd
    exact (List.nodup_cons.1 nd).1 List.mem_cons_self
theorem Wd.ne {v : V} {s t i b : Nat} {cs : List V} {x : Blk} {ml1 ml2 : ML} {tb : List Ri} {mu : Option Nat} {rest : List Sg} {ls : List (Nat × Nat)} {ps : List Pd2} (h1 : Tk (.acc v s cs t) ml ml1) (h2 : Tk (.blk b x) ml1 ml2) (k : (∀ c, blkV v = some c → c ≠ b) → Wd P nat N B ops l tb i al ((g, ml, mu) :: rest) ls ps R) : Wd P nat N B ops l tb i al ((g, ml, mu) :: rest) ls ps R := fun n0 tm S hk r => by
  obtain ⟨p, l2, e, st, _⟩ := r.hs.head
  exact k (st.ne h1 h2) n0 tm S hk r
theorem St.neb {h : H} {b b' : Nat} {x y : Blk} {ml1 ml2 : ML} (k : St B g ml h) (h1 : Tk (.blk b x) ml ml1) (h2 : Tk (.blk b' y) ml1 ml2) : b ≠ b' := by
  have k1 := (k.perm h1.perm).perm ((h2.perm).cons _)
  intro e
  subst e
  have nd := k1.nd
  rw [fps_cons, fps_cons] at nd
  have nd : (b :: b :: fps ml2).Nodup := nd
  exact (List.nodup_cons.1 nd).1 List.mem_cons_self
theorem FrL.n {anc c : Nat} : FrL B g ml anc c [] := trivial
theorem FrL.cI {anc c i b : Nat} {r : List (Nat × Nat)} (h : bit anc i = true) (k : FrL B g ml anc c r) : FrL B g ml anc c ((i, b) :: r) := ⟨.inl h, k⟩
theorem FrL.cN {anc c i b : Nat} {r : List (Nat × Nat)} (h : ∀ h, St B g ml h → c ≠ b) (k : FrL B g ml anc c r) : FrL B g ml anc c ((i, b) :: r) := ⟨.inr h, k⟩
theorem pinF_n {anc : Nat} : pinF anc [] = [] := rfl
theorem pinF_t {anc i b : Nat} {x : Blk} {ps q : List Pd2} (h : bit anc i = true) (k : pinF anc ps = q) : pinF anc ((i, b, x) :: ps) = (i, b, x) :: q := by
  show Bool.rec (motive := fun _ => List Pd2) (pinF anc ps) ((i, b, x) :: pinF anc ps) (bit anc i) = _
  rw [h, k]
theorem restA_n {anc : Nat} : restA anc [] = [] := rfl
theorem restA_t {anc i b : Nat} {x : Blk} {ps q : List Pd2} (h : bit anc i = true) (k : restA anc ps = q) : restA anc ((i, b, x) :: ps) = q := by
  show Bool.rec (motive := fun _ => List Pd2) ((i, b, x) :: restA anc ps) (restA anc ps) (bit anc i) = _
  rw [h, k]
theorem allA_c {anc i b : Nat} {ls : List (Nat × Nat)} (h : bit anc i = true) (k : allA anc ls = true) : allA anc ((i, b) :: ls) = true := by
  show Bool.rec (motive := fun _ => Bool) false (allA anc ls) (bit anc i) = true
  rw [h, k]
theorem mo_app {x y : Operand} {ts : Array TypeId} {v : V} (hx : vA al x = some v) : ∀ tm, Kn tm al → modO (ev0 tm) (.call ⟨.builtin .append, #[x, y], ts⟩) = blkV v := fun tm hk => by
  show blkV (ev0 tm x) = _
  rw [hk.ev hx]
/-- a slice's value is exchanged, at its place. -/
inductive Ra (v : V) (s : Nat) (cs cs' : List V) (e : Nat) : ML → (V → ML) → Prop
  | hd {l : ML} : Ra v s cs cs' e (.acc v s cs e :: l) fun v' => .acc v' s cs' e :: l
  | tl {x : Res} {l : ML} {f : V → ML} : Ra v s cs cs' e l f → Ra v s cs cs' e (x :: l) fun v' => x :: f v'
theorem Ra.rp {v v' : V} {s e : Nat} {cs cs' : List V} {l : ML} {f : V → ML} (h : Ra v s cs cs' e l f) : Rp (.acc v s cs e) (.acc v' s cs' e) l (f v') := by
  induction h with
  | hd => exact .hd
  | tl _ ih => exact .tl ih
theorem OpX.appA {t xT : TypeId} {x y : Operand} {xs : Array Operand} {ts : Array TypeId} {v : V} {s e bt m : Nat} {zs cs new : List V} {mlf : V → ML} (hxs : xs = #[x, y]) (hts : ts = #[t, xT]) (hx : vA al x = some v) (hr : Ra v s cs (cs ++ new) e ml mlf) (ht : slO P t = some e) (he : elO P e = some (s, bt, zs)) (hsrc : Sc P al g ml s xT y m new) (hm : 0 < m) (hnew : new.length = m * s) (hlen : cs.length + new.length ≤ 1000000 * s)
    (hone : allOne new = true) : OpX P B al g ml (.call ⟨.builtin .append, xs, ts⟩) mlf := OpX.app (ty := 0) hxs hts hx ht he hsrc hm hnew hlen hone fun v' => hr.rp
theorem Fw.forget {f : V} {args : List V} {Post Post' : G → ML → V → Prop} (h : Fw P nat f args g ml Post) (hp : ∀ g' ml' r, Le g g' → Post g' ml' r → ∃ ml'', ml''.Sublist ml' ∧ Post' g' ml'' r) : Fw P nat f args g ml Post' := fun m st => by
  obtain ⟨r, h', g', ml', a, b, c, d⟩ := h m st
  obtain ⟨ml'', e, k⟩ := hp g' ml' r c d
  exact ⟨r, h', g', ml'', a, b.weak e, c, k⟩
theorem flat_at {α : Type} {f : α → List V} {s : Nat} (hf : ∀ x, (f x).length = s) : ∀ {l : List α} {j : Nat} {x : α}, l[j]? = some x → ((l.flatMap f).drop (j * s)).take s = f x
  | [], j, x, h => by simp at h
  | y :: l, 0, x, h => by
    simp only [List.getElem?_cons_zero, Option.some.injEq] at h
    subst h
    rw [List.flatMap_cons, Nat.zero_mul, List.drop_zero, ← hf y, List.take_left']
    rfl
  | y :: l, j + 1, x, h => by
    simp only [List.getElem?_cons_succ] at h
    rw [List.flatMap_cons, Nat.add_mul, Nat.one_mul, Nat.add_comm, ← List.drop_drop]
    have : (f y ++ l.flatMap f).drop s = l.flatMap f := by rw [← hf y, List.drop_left']; rfl
    rw [this]
    exact flat_at hf h
theorem flat_len {α : Type} {f : α → List V} {s : Nat} (hf : ∀ x, (f x).length = s) : ∀ l : List α, (l.flatMap f).length = l.length * s
  | [] => by simp
  | y :: l => by rw [List.flatMap_cons, List.length_append, hf, flat_len hf l, List.length_cons, Nat.add_mul, Nat.one_mul, Nat.add_comm]
/-- a slice that was appended to is data from here on. -/
theorem Wc.freezeA {α : Type} {c : Code} {v : V} {s t : Nat} {cs : List V} {ml' : ML} (f : α → List V) (Rr : G → List V → α → Prop) (xs : List α) (hm : Tk (.acc v s cs t) ml ml') (hs : 0 < s) (hf : ∀ x, (f x).length = s) (hc : cs = xs.flatMap f) (hn : xs.length ≤ 9223372036854775807) (hR : ∀ g', Le g g' → ∀ x ∈ xs, Rr g' (f x) x)
    (k : ∀ g', Le g g' → RS Rr s g' v xs → Wc P nat ro N B c al g' ml' ds Q) : Wc P nat ro N B c al g ml ds Q := fun tm m hk st => by
  have s1 := st.perm hm.perm
  rcases s1.own _ List.mem_cons_self with ⟨rfl, e⟩ | ⟨b, n, hv, h1, h2⟩
  · refine k g (Le.refl _) ⟨hn, .inl ⟨rfl, ?_⟩⟩ tm m hk (s1.weak (.cons _ (List.Sublist.refl _)))
    have := flat_len hf xs
    rw [← hc, e, List.length_nil] at this
    have : xs.length = 0 := by
      rcases Nat.eq_zero_or_pos xs.length with h | h
      · exact h
      · have := Nat.mul_pos h hs; omega
    exact List.length_eq_zero_iff.1 this
  · have s2 : St B g (.blk b (.cells cs t) :: ml') m := by
      have e : fps (Res.acc v s cs t :: ml') = fps (.blk b (.cells cs t) :: ml') := by rw [fps_cons, fps_cons]; rcases hv with rfl | rfl <;> rfl
      refine { s1 with own := fun r hr => ?_, nd := e ▸ s1.nd, fresh := e ▸ s1.fresh }
      rcases List.mem_cons.1 hr with rfl | hr
      · exact h2
      · exact s1.own r (List.mem_cons_of_mem _ hr)
    have hle : Le g (g.add b (.cells cs t)) := Le.add s2.gnone
    have hb : (g.add b (.cells cs t)) b = some (.cells cs t) := if_pos rfl
    have hl : cs.length = xs.length * s := by rw [hc]; exact flat_len hf xs
    have en : n = xs.length := Nat.eq_of_mul_eq_mul_right hs (h1.symm.trans hl)
    subst en
    refine k _ hle ⟨hn, .inr (.inr ⟨b, 0, (Sl.ac hv), fun j x hx => ⟨f x, hf x, ⟨cs, t, hb, ?_, ?_⟩, hR _ hle x (List.mem_of_getElem? hx)⟩⟩)⟩ tm m hk s2.freeze
    · have := (List.getElem?_eq_some_iff.1 hx).1
      have := Nat.mul_le_mul_right s this
      rw [hf x, hl]
      simp only [Nat.succ_mul] at this
      omega
    · rw [hf x, hc, Nat.zero_add]
      exact flat_at hf hx
end
/-- whole numbers as data. -/
def IntR (g : G) (cs : List V) (n : Int) : Prop := cs = [.i .i64 n]
theorem IntR.mono : ∀ g g' cs x, Le g g' → IntR g cs x → IntR g' cs x := fun _ _ _ _ _ h => h
end Go.Ev

/- Append to a slice whose block is known. -/
namespace Go.Ev
open Go
set_option linter.unusedVariables false
set_option linter.unusedSimpArgs false
section
variable {P : Program} {nat : Nats} {ro : Option Nat} {N : Nat} {B : Base} {al : AL} {g g0 : G} {ml ml' : ML} {ops l : List Oper} {R : OQ} {d ty : Nat} {pos : String} {af : Array Edge} {gd : Option (Nat × Bool)}
/-- a slice whose block is its own, filled to its end. -/
def Fl (v : V) (b n s : Nat) : Prop := v = .sl b 0 n n ∨ v = .su b 0 n s
theorem Fl.sl {v : V} {b n s : Nat} (h : Fl v b n s) : Sl v b 0 n := by
  rcases h with rfl | rfl
  · exact .sl
  · exact .su
theorem Fl.av {v : V} {b n s : Nat} (h : Fl v b n s) : Av v := by
  rcases h with rfl | rfl <;> exact ⟨rfl, rfl, rfl⟩
end
end Go.Ev

/- What scripts that are printed whole lean on: steps of a function that may give nothing, lists in own cells. -/
namespace Go.Ev
open Go
set_option linter.unusedVariables false
set_option linter.unusedSimpArgs false
section
variable {R : Type} {r : R}
theorem cT {c : Bool} {A B : Option R} (h : c = true) (hF : cond c A B = some r) : A = some r := by rw [h] at hF; exact hF
theorem cF {c : Bool} {A B : Option R} (h : c = false) (hF : cond c A B = some r) : B = some r := by rw [h] at hF; exact hF
theorem bS {α : Type} {o : Option α} {K : α → Option R} (h : o.bind K = some r) : ∃ y, o = some y ∧ K y = some r := by
  cases o with
  | none => cases h
  | some y => exact ⟨y, rfl, h⟩
/-- only if a condition holds. -/
def ck (c : Bool) (A : Option R) : Option R := cond c A none
theorem ckS {c : Bool} {A : Option R} (h : ck c A = some r) : c = true ∧ A = some r := by
  cases c with
  | true => exact ⟨rfl, h⟩
  | false => cases h
theorem sI {a b : R} (h : some a = some b) : a = b := Option.some.inj h
end
/-- a word of 64 bits. -/
abbrev wr (n : Int) : Int := IntKind.i64.wrap n
def atI {α : Type} (l : List α) (i : Int) : Option α := if 0 ≤ i then l[i.toNat]? else none
section
variable {α : Type}
theorem atI_get {l : List α} {i : Int} {y : α} (h : atI l i = some y) : l[i.toNat]? = some y := by
  unfold atI at h
  split at h
  · exact h
  · cases h
theorem atI_lt {l : List α} {i : Int} {y : α} (h : atI l i = some y) : 0 ≤ i ∧ i < (l.length : Int) := by
  have h1 := (List.getElem?_eq_some_iff.1 (atI_get h)).1
  unfold atI at h
  split at h
  · omega
  · cases h
theorem atN_lt {l : List α} {i : Nat} {y : α} (h : l[i]? = some y) : i < l.length := (List.getElem?_eq_some_iff.1 h).1
theorem atI_nat (l : List α) (k : Nat) : atI l (k : Int) = l[k]? := by
  unfold atI
  rw [if_pos (by omega)]; rfl
theorem getK {l : List α} {k : Nat} (h : (k : Int) < (l.length : Int)) : ∃ y, l[k]? = some y := ⟨_, List.getElem?_eq_getElem (by omega)⟩
theorem same {o : Option α} {a b : α} (h : o = some a) (k : o = some b) : a = b := Option.some.inj (h.symm.trans k)
/-- cells of elements, one behind the other. -/
inductive Ls (R : G → List V → α → Prop) (s : Nat) (g : G) : List V → List α → Prop
  | nil : Ls R s g [] []
  | cons {c cs : List V} {x : α} {xs : List α} : c.length = s → R g c x → Ls R s g cs xs → Ls R s g (c ++ cs) (x :: xs)
variable {R : G → List V → α → Prop} {s : Nat} {g g' : G} {cs ds : List V} {xs ys : List α} {v : V}
theorem Ls.mono (hR : ∀ g g' cs x, Le g g' → R g cs x → R g' cs x) (h : Ls R s g cs xs) (hl : Le g g') : Ls R s g' cs xs := by
  induction h with
  | nil => exact .nil
  | cons a b _ ih => exact .cons a (hR _ _ _ _ hl b) ih
theorem Ls.app (h : Ls R s g cs xs) (k : Ls R s g ds ys) : Ls R s g (cs ++ ds) (xs ++ ys) := by
  induction h with
  | nil => exact k
  | cons a b _ ih => rw [List.append_assoc]; exact .cons a b ih
theorem Ls.len (h : Ls R s g cs xs) : cs.length = xs.length * s := by
  induction h with
  | nil => simp
  | cons a b _ ih => rw [List.length_append, ih, a, List.length_cons, Nat.add_mul, Nat.one_mul, Nat.add_comm]
theorem Ls.at (h : Ls R s g cs xs) : ∀ {j : Nat} {x : α}, xs[j]? = some x → ∃ c, c.length = s ∧ R g c x ∧ (cs.drop (j * s)).take s = c := by
  induction h with
  | nil => intro j x hx; simp at hx
  | @cons c cs y xs a b _ ih =>
    intro j x hx
    cases j with
    | zero =>
      simp only [List.getElem?_cons_zero, Option.some.injEq] at hx
      subst hx
      exact ⟨c, a, b, by rw [Nat.zero_mul, List.drop_zero, ← a, List.take_left']; rfl⟩
    | succ j =>
      simp only [List.getElem?_cons_succ] at hx
      obtain ⟨d, h1, h2, h3⟩ := ih hx
      refine ⟨d, h1, h2, ?_⟩
      rw [← h3, Nat.add_mul, Nat.one_mul, Nat.add_comm, ← List.drop_drop]
      have : (c ++ cs).drop s = cs := by rw [← a, List.drop_left']; rfl
      rw [this]
/-- a slice that is appended to: its value, its cells, its elements. -/
structure AccR (R : G → List V → α → Prop) (s : Nat) (g : G) (v : V) (cs : List V) (xs : List α) : Prop where
  sh : (v = .sn ∧ cs = []) ∨ ∃ b n, (v = .su b 0 n s ∨ v = .sl b 0 n n) ∧ cs.length = n * s
  ls : Ls R s g cs xs
  le : xs.length ≤ 1000000
theorem AccR.nil : AccR R s g .sn [] [] := ⟨.inl ⟨rfl, rfl⟩, .nil, Nat.zero_le _⟩
theorem AccR.mono (h : AccR R s g v cs xs) (hR : ∀ g g' cs x, Le g g' → R g cs x → R g' cs x) (hl : Le g g') : AccR R s g' v cs xs := ⟨h.sh, h.ls.mono hR hl, h.le⟩
theorem AccR.av (h : AccR R s g v cs xs) : Av v := by
  rcases h.sh with ⟨rfl, _⟩ | ⟨b, n, rfl | rfl, _⟩
  · exact .nil
  · exact ⟨rfl, rfl, rfl⟩
  · exact ⟨rfl, rfl, rfl⟩
theorem AccR.any (h : AccR R s g v cs xs) : v.any? = false := h.av.any
theorem AccR.cells (h : AccR R s g v cs xs) : v.cells = [v] := h.av.cells
theorem AccR.one (h : AccR R s g v cs xs) : oneV v = true := h.av.one
def AccS (s : Nat) (v : V) (cs : List V) : Prop := (v = .sn ∧ cs = []) ∨ ∃ b n, (v = .su b 0 n s ∨ v = .sl b 0 n n) ∧ cs.length = n * s
theorem AccS.of {h : H} {v : V} {s t : Nat} {cs : List V} (k : Res.ok h (.acc v s cs t)) : AccS s v cs := by
  rcases k with k | ⟨b, n, h1, h2, _⟩
  · exact .inl k
  · exact .inr ⟨b, n, h1, h2⟩
theorem AccR.app {v' : V} {new : List V} (h : AccR R s g v cs xs) (hn : Ls R s g new ys) (hl : xs.length + ys.length ≤ 1000000) (hs : AccS s v' (cs ++ new)) : AccR R s g v' (cs ++ new) (xs ++ ys) := ⟨hs, h.ls.app hn, by rw [List.length_append]; exact hl⟩
theorem AccR.room {new : List V} (h : AccR R s g v cs xs) (hn : Ls R s g new ys) (hl : xs.length + ys.length ≤ 1000000) : cs.length + new.length ≤ 1000000 * s := by
  rw [h.ls.len, hn.len, ← Nat.add_mul]
  exact Nat.mul_le_mul_right _ hl
theorem AccR.lit {b n : Nat} (h : Ls R s g cs xs) (hn : xs.length = n) (hl : n ≤ 1000000) : AccR R s g (.sl b 0 n n) cs xs := ⟨.inr ⟨b, n, .inr rfl, by rw [h.len, hn]⟩, h, by omega⟩
theorem RS.nil : RS R s g .sn [] := ⟨by simp, .inl ⟨rfl, rfl⟩⟩
end
section
variable {P : Program} {nat : Nats} {ro : Option Nat} {N : Nat} {B : Base} {al : AL} {g g0 : G} {ml : ML} {ops l : List Oper} {R : OQ} {Q : AQ} {ds : List D}
theorem Wc.as {c : Code} {v : V} {s t : Nat} {cs : List V} {ml' : ML} (hm : Tk (.acc v s cs t) ml ml') (k : AccS s v cs → Wc P nat ro N B c al g ml ds Q) : Wc P nat ro N B c al g ml ds Q := fun tm m hk st => k (AccS.of (st.own _ hm.mem)) tm m hk st
theorem Wo.as {v : V} {s t : Nat} {cs : List V} {ml' : ML} (hm : Tk (.acc v s cs t) ml ml') (k : AccS s v cs → Wo P nat N B ops l al g ml R) : Wo P nat N B ops l al g ml R := fun tm m hk st => k (AccS.of (st.own _ hm.mem)) tm m hk st
theorem Wd.as {v : V} {s t i : Nat} {cs : List V} {ml' : ML} {tb : List Ri} {mu : Option Nat} {rest : List Sg} {ls : List (Nat × Nat)} {ps : List Pd2} (hm : Tk (.acc v s cs t) ml ml') (k : AccS s v cs → Wd P nat N B ops l tb i al ((g, ml, mu) :: rest) ls ps R) : Wd P nat N B ops l tb i al ((g, ml, mu) :: rest) ls ps R := fun n0 tm S hk r => by
  obtain ⟨p, l2, e, st, _⟩ := r.hs.head
  exact k (AccS.of (st.own _ hm.mem)) n0 tm S hk r
/-- a slice that was appended to is data from here on. -/
theorem St.freezeL {α : Type} {Rr : G → List V → α → Prop} {v : V} {s t : Nat} {cs : List V} {xs : List α} {ml' : ML} {m : H} (hR : ∀ g g' cs x, Le g g' → Rr g cs x → Rr g' cs x) (hm : Tk (.acc v s cs t) ml ml') (hs : 0 < s) (hL : AccR Rr s g v cs xs) (st : St B g ml m) : ∃ g', Le g g' ∧ RS Rr s g' v xs ∧ St B g' ml' m := by
  have s1 := st.perm hm.perm
  have hn : xs.length ≤ 9223372036854775807 := Nat.le_trans hL.le (by decide)
  rcases s1.own _ List.mem_cons_self with ⟨rfl, e⟩ | ⟨b, n, hv, h1, h2⟩
  · refine ⟨g, Le.refl _, ⟨hn, .inl ⟨rfl, ?_⟩⟩, s1.weak (.cons _ (List.Sublist.refl _))⟩
    have := hL.ls.len
    rw [e, List.length_nil] at this
    have : xs.length = 0 := by
      rcases Nat.eq_zero_or_pos xs.length with h | h
      · exact h
      · have := Nat.mul_pos h hs; omega
    exact List.length_eq_zero_iff.1 this
  · have s2 : St B g (.blk b (.cells cs t) :: ml') m := by
      have e : fps (Res.acc v s cs t :: ml') = fps (.blk b (.cells cs t) :: ml') := by rw [fps_cons, fps_cons]; rcases hv with rfl | rfl <;> rfl
      refine { s1 with own := fun r hr => ?_, nd := e ▸ s1.nd, fresh := e ▸ s1.fresh }
      rcases List.mem_cons.1 hr with rfl | hr
      · exact h2
      · exact s1.own r (List.mem_cons_of_mem _ hr)
    have hle : Le g (g.add b (.cells cs t)) := Le.add s2.gnone
    have hb : (g.add b (.cells cs t)) b = some (.cells cs t) := if_pos rfl
    have hl : cs.length = xs.length * s := hL.ls.len
    have en : n = xs.length := Nat.eq_of_mul_eq_mul_right hs (h1.symm.trans hl)
    subst en
    refine ⟨_, hle, ⟨hn, .inr (.inr ⟨b, 0, (Sl.ac hv), fun j x hx => ?_⟩)⟩, s2.freeze⟩
    obtain ⟨c, c1, c2, c3⟩ := hL.ls.at hx
    refine ⟨c, c1, ⟨cs, t, hb, ?_, ?_⟩, hR _ _ _ _ hle c2⟩
    · have := (List.getElem?_eq_some_iff.1 hx).1
      have := Nat.mul_le_mul_right s this
      rw [c1, hl]
      simp only [Nat.succ_mul] at this
      omega
    · rw [c1, Nat.zero_add]; exact c3
theorem Wc.freezeL {α : Type} {Rr : G → List V → α → Prop} {c : Code} {v : V} {s t : Nat} {cs : List V} {xs : List α} {ml' : ML} (hR : ∀ g g' cs x, Le g g' → Rr g cs x → Rr g' cs x) (hm : Tk (.acc v s cs t) ml ml') (hs : 0 < s) (hL : AccR Rr s g v cs xs)
    (k : ∀ g', Le g g' → RS Rr s g' v xs → Wc P nat ro N B c al g' ml' ds Q) : Wc P nat ro N B c al g ml ds Q := fun tm m hk st => by
  obtain ⟨g', h1, h2, h3⟩ := st.freezeL hR hm hs hL
  exact k g' h1 h2 tm m hk h3
theorem Wo.freezeL {α : Type} {Rr : G → List V → α → Prop} {v : V} {s t : Nat} {cs : List V} {xs : List α} {ml' : ML} (hR : ∀ g g' cs x, Le g g' → Rr g cs x → Rr g' cs x) (hm : Tk (.acc v s cs t) ml ml') (hs : 0 < s) (hL : AccR Rr s g v cs xs)
    (k : ∀ g', Le g g' → RS Rr s g' v xs → Wo P nat N B ops l al g' ml' R) : Wo P nat N B ops l al g ml R := fun tm m hk st => by
  obtain ⟨g', h1, h2, h3⟩ := st.freezeL hR hm hs hL
  exact k g' h1 h2 tm m hk h3
theorem OpP.lenA {α : Type} {S : G → List V → α → Prop} {s s' : Nat} {x : Operand} {t : TypeId} {v : V} {cs : List V} {xs : Array Operand} {ts : Array TypeId} {m : List α} (hxs : xs = #[x]) (hts : ts = #[t]) (hx : vA al x = some v) (ht : seO P t = some s') (hs : 0 < s) (h : AccR S s g v cs m) : OpP P al (.call ⟨.builtin .len, xs, ts⟩) (.i .i64 (m.length : Int)) := by
  obtain ⟨e, h2, _⟩ := seO_some ht
  refine .len hxs hts hx ?_
  have hl := h.ls.len
  rcases h.sh with ⟨rfl, rfl⟩ | ⟨b, n, hv, h1⟩
  · have : m.length = 0 := by
      rcases Nat.eq_zero_or_pos m.length with h | h
      · exact h
      · have := Nat.mul_pos h hs; rw [List.length_nil] at hl; omega
    rw [this]
    simp only [lenV, h2]; rfl
  · have en : n = m.length := Nat.eq_of_mul_eq_mul_right hs (h1.symm.trans hl)
    rw [← en]
    exact lenV_sl ht (Sl.ac hv)
/-- a slice made by a literal may be appended to. -/
theorem St.litAcc {h : H} {b n s t : Nat} {cs : List V} {ml' : ML} (hm : Tk (.blk b (.cells cs t)) ml ml') (k : St B g ml h) (hn : cs.length = n * s) : St B g (.acc (.sl b 0 n n) s cs t :: ml') h := by
  have k := k.perm hm.perm
  refine { k with own := fun r hr => ?_, nd := k.nd, fresh := k.fresh }
  rcases List.mem_cons.1 hr with rfl | hr
  · exact .inr ⟨b, n, .inr rfl, hn, k.own _ List.mem_cons_self⟩
  · exact k.own r (List.mem_cons_of_mem _ hr)
theorem Wc.litAcc {c : Code} {b n s t : Nat} {cs : List V} {ml' : ML} (hm : Tk (.blk b (.cells cs t)) ml ml') (hn : cs.length = n * s) (k : Wc P nat ro N B c al g (.acc (.sl b 0 n n) s cs t :: ml') ds Q) : Wc P nat ro N B c al g ml ds Q := fun tm m hk st => k tm m hk (st.litAcc hm hn)
theorem Wo.litAcc {b n s t : Nat} {cs : List V} {ml' : ML} (hm : Tk (.blk b (.cells cs t)) ml ml') (hn : cs.length = n * s) (k : Wo P nat N B ops l al g (.acc (.sl b 0 n n) s cs t :: ml') R) : Wo P nat N B ops l al g ml R := fun tm m hk st => k tm m hk (st.litAcc hm hn)
/-- an element of a slice that is appended to. -/
theorem OpL.as {t : TypeId} {x : Operand} {b o' j s tt : Nat} {full c : List V} {v : V} (k : Nat) (hx : vA al x = some (.p b o')) (hb : Hb g b (.cells full tt) ml) (ho : o' = j * s + k) (hc : (full.drop (j * s)).take s = c) (hl : c.length = s) (ha : aggO P t = some false) (hv : lget c k = some v) : OpL P al g ml t x b v := by
  subst ho
  refine .s hx hb ha (Pt.get (b := b) (cs := c) ?_ hv)
  rw [hl]; exact hc
theorem AccR.ix {α : Type} {S : G → List V → α → Prop} {s : Nat} {v : V} {cs : List V} {xs : List α} {j : Nat} {y : α} (h : AccR S s g v cs xs) (hs : 0 < s) (hy : xs[j]? = some y) : ∃ b n c, (v = .su b 0 n s ∨ v = .sl b 0 n n) ∧ j < n ∧ c.length = s ∧ S g c y ∧ (cs.drop (j * s)).take s = c := by
  have hj := (List.getElem?_eq_some_iff.1 hy).1
  have hl := h.ls.len
  obtain ⟨c, c1, c2, c3⟩ := h.ls.at hy
  rcases h.sh with ⟨_, rfl⟩ | ⟨b, n, hv, h1⟩
  · rw [List.length_nil] at hl
    have := Nat.mul_pos (show 0 < xs.length by omega) hs
    omega
  · have en : n = xs.length := Nat.eq_of_mul_eq_mul_right hs (h1.symm.trans hl)
    exact ⟨b, n, c, hv, by omega, c1, c2, c3⟩
theorem Wo.ixA {α : Type} {S : G → List V → α → Prop} {s : Nat} {v : V} {cs : List V} {m : List α} {t : TypeId} {x i : Operand} {k : IntKind} {j : Int} {y : α} {d ty : Nat} {pos : String} {af : Array Edge} {gd : Option (Nat × Bool)} (hg : Gd ops al gd) (hd : Nat.blt d N = true)
    (hx : vA al x = some v) (h : AccR S s g v cs m) (hi : vA al i = some (.i k j)) (ht : seO P t = some s) (hs : 0 < s) (h0 : 0 ≤ j) (hy : m[j.toNat]? = some y)
    (kk : ∀ b n c, (v = .su b 0 n s ∨ v = .sl b 0 n n) → c.length = s → (cs.drop (j.toNat * s)).take s = c → S g c y → Wo P nat N B ops l ((d, .p b (j.toNat * s)) :: al) g ml R) : Wo P nat N B ops (⟨some d, .indexAddr t x i, ty, pos, af, gd⟩ :: l) al g ml R := by
  obtain ⟨b, n, c, hv, hj, c1, c2, c3⟩ := h.ix hs hy
  have := kk b n c hv c1 c3 c2
  rw [← Nat.zero_add (j.toNat * s)] at this
  exact .p hg hd (.ix hx (Sl.ac hv) hi ht h0 (by omega)) this
theorem Wd.ixA {α : Type} {S : G → List V → α → Prop} {s : Nat} {v : V} {cs : List V} {m : List α} {t : TypeId} {x i : Operand} {k : IntKind} {j : Int} {y : α} {d ty : Nat} {pos : String} {af : Array Edge} {gd : Option (Nat × Bool)} {a : Ri} {tb : List Ri} {i0 : Nat} {sg : List Sg} {ls : List (Nat × Nat)} {ps : List Pd2} (hg : Gd ops al gd) (hd : Nat.blt d N = true)
    (hx : vA al x = some v) (h : AccR S s g v cs m) (hi : vA al i = some (.i k j)) (ht : seO P t = some s) (hs : 0 < s) (h0 : 0 ≤ j) (hy : m[j.toNat]? = some y)
    (kk : ∀ b n c, (v = .su b 0 n s ∨ v = .sl b 0 n n) → c.length = s → (cs.drop (j.toNat * s)).take s = c → S g c y → Wd P nat N B ops l tb (i0 + 1) ((d, .p b (j.toNat * s)) :: al) sg ls ps R) : Wd P nat N B ops (⟨some d, .indexAddr t x i, ty, pos, af, gd⟩ :: l) (a :: tb) i0 al sg ls ps R := by
  obtain ⟨b, n, c, hv, hj, c1, c2, c3⟩ := h.ix hs hy
  have := kk b n c hv c1 c3 c2
  rw [← Nat.zero_add (j.toNat * s)] at this
  exact .p hg hd (.ix hx (Sl.ac hv) hi ht h0 (by omega)) rfl rfl rfl this
theorem Wc.al0 {c : Code} (al : AL) (h : Wc P nat ro N B c al g ml ds Q) : Wc P nat ro N B c al g ml ds Q := h
/-- what is handed back, without the own memory that is left over. -/
theorem Fw.drop {f : V} {args : List V} {Post : G → V → Prop} (h : Fw P nat f args g ml fun g' _ r => Post g' r) : Fw P nat f args g ml fun g' ml' r => ml' = [] ∧ Post g' r :=
  h.forget fun g' ml' r _ hp => ⟨[], List.nil_sublist _, rfl, hp⟩
end
theorem IntR.any {g : G} {cs : List V} {n : Int} (h : IntR g cs n) : cs = [.i .i64 n] := h
def BoolR (g : G) (cs : List V) (n : Bool) : Prop := cs = [.b n]
theorem BoolR.mono : ∀ g g' cs x, Le g g' → BoolR g cs x → BoolR g' cs x := fun _ _ _ _ _ h => h
def StrR (g : G) (cs : List V) (n : List UInt8) : Prop := cs = [.s n]
theorem StrR.mono : ∀ g g' cs x, Le g g' → StrR g cs x → StrR g' cs x := fun _ _ _ _ _ h => h
theorem iop_quo {k : IntKind} {a c : Int} (h : (!decide (c = 0)) = true) : iop .quo k a c = some (.i k (k.wrap (a.tdiv c))) := by
  have h : ¬ c = 0 := by simpa using h
  show (if c = 0 then _ else _) = _
  rw [if_neg h]
theorem iop_rem {k : IntKind} {a c : Int} (h : (!decide (c = 0)) = true) : iop .rem k a c = some (.i k (a.tmod c)) := by
  have h : ¬ c = 0 := by simpa using h
  show (if c = 0 then _ else _) = _
  rw [if_neg h]
theorem bnT {a : Bool} (h : a = true) : (!a) = false := by rw [h]; rfl
theorem bnF {a : Bool} (h : a = false) : (!a) = true := by rw [h]; rfl
/-! equality of structs and arrays, all parts looked at -/
section
variable (P : Program)
noncomputable def an2 : Option Bool → Option Bool → Option Bool
  | some a, some b => some (a && b)
  | _, _ => none
noncomputable def eqFw (go : TypeId → V → V → Option Bool) (a c : List V) : List Field → Option Bool
  | [] => some true
  | f :: fs => bif f.name == "_" then eqFw go a c fs else
      match partV P f.type a f.offset, partV P f.type c f.offset with
      | some x, some z => an2 (go f.type x z) (eqFw go a c fs)
      | _, _ => none
noncomputable def eqEw (go : TypeId → V → V → Option Bool) (e : TypeId) (s : Nat) (a c : List V) : List Nat → Option Bool
  | [] => some true
  | i :: is => match partV P e a (i * s), partV P e c (i * s) with
    | some x, some z => an2 (go e x z) (eqEw go e s a c is)
    | _, _ => none
noncomputable def eqDw (go : TypeId → V → V → Option Bool) (t : TypeId) (x z : V) : Option TypeDesc → Option Bool
  | some .bool => eqB x z
  | some (.int _) => eqI x z
  | some .string => eqS x z
  | some (.struct _) => (match x, z with
    | .agg a, .agg c => bif P.stoodInHeld t then none else eqFw P go a c (P.fieldsOf t).toList
    | _, _ => none)
  | some (.array n e) => (match x, z with
    | .agg a, .agg c => (match P.info? e with
      | some _ => eqEw P go e (P.cellsOf e) a c (List.range n)
      | none => none)
    | _, _ => none)
  | _ => none
noncomputable def eqW (n : Nat) : TypeId → V → V → Option Bool :=
  Nat.rec (motive := fun _ => TypeId → V → V → Option Bool) (fun _ _ _ => none) (fun _ ih t x z => eqDw P ih t x z (P.underlying t)) n
end
section
variable {P : Program}
theorem an2_some {x y : Option Bool} {r : Bool} (h : an2 x y = some r) : ∃ a b, x = some a ∧ y = some b ∧ r = (a && b) := by
  cases x with
  | none => cases h
  | some a => cases y with
    | none => cases h
    | some b => exact ⟨a, b, rfl, rfl, (Option.some.inj h).symm⟩
theorem eqFw_ok {go go' : TypeId → V → V → Option Bool} (hg : ∀ t x z r, go t x z = some r → go' t x z = some r) {a c : List V} : ∀ {fs : List Field} {r : Bool}, eqFw P go a c fs = some r → eqFs P go' a c fs = some r
  | [], r, h => h
  | f :: fs, r, h => by
    unfold eqFw at h
    unfold eqFs
    cases hn : f.name == "_" with
    | true =>
      rw [hn] at h
      rw [if_neg (by simpa using hn)]
      exact eqFw_ok hg h
    | false =>
      rw [hn] at h
      rw [if_pos (by simpa using hn)]
      simp only [cond_false] at h
      split at h
      · rename_i x z hx hz
        obtain ⟨p, q, h1, h2, rfl⟩ := an2_some h
        simp only [hx, hz, hg _ _ _ _ h1]
        cases p with
        | true => exact eqFw_ok hg h2
        | false => rfl
      · cases h
theorem eqEw_ok {go go' : TypeId → V → V → Option Bool} (hg : ∀ t x z r, go t x z = some r → go' t x z = some r) {e : TypeId} {s : Nat} {a c : List V} : ∀ {is : List Nat} {r : Bool}, eqEw P go e s a c is = some r → eqEls P go' e s a c is = some r
  | [], r, h => h
  | i :: is, r, h => by
    unfold eqEw at h
    unfold eqEls
    split at h
    · rename_i x z hx hz
      obtain ⟨p, q, h1, h2, rfl⟩ := an2_some h
      simp only [hx, hz, hg _ _ _ _ h1]
      cases p with
      | true => exact eqEw_ok hg h2
      | false => rfl
    · cases h
theorem eqW_ok : ∀ (n : Nat) (t : TypeId) (x z : V) (r : Bool), eqW P n t x z = some r → eqV P n t x z = some r := by
  intro n
  induction n with
  | zero => intro t x z r h; cases h
  | succ n ih =>
    intro t x z r h
    rw [eqV_succ]
    have h : eqDw P (eqW P n) t x z (P.underlying t) = some r := h
    unfold eqDw at h
    split at h
    · rename_i hd; rw [hd]; exact h
    · rename_i hd; rw [hd]; exact h
    · rename_i hd; rw [hd]; exact h
    · rename_i hd; rw [hd]
      unfold eqD
      split at h
      · cases hs : P.stoodInHeld t with
        | true => rw [hs] at h; cases h
        | false =>
          rw [hs] at h
          simp only [eqSt, hs, Bool.false_eq_true, if_false]
          exact eqFw_ok ih h
      · cases h
    · rename_i hd; rw [hd]
      unfold eqD
      split at h
      · split at h
        · rename_i i hi
          simp only [eqAr, hi]
          exact eqEw_ok ih h
        · cases h
      · cases h
    · cases h
theorem binV_eql {t : TypeId} {x y : Operand} {a c : List V} {r : Bool} (hg : P.eqGuardType P.depth t = false) (h : eqW P 60 t (.agg a) (.agg c) = some r) : binV P .eql t x y (.agg a) (.agg c) = some (.b r) := by
  show (if (true && !P.eqGuardType P.depth t) = true then eqG P .eql t (.agg a) (.agg c) else none) = _
  rw [hg]
  show eqN P false t (.agg a) (.agg c) = _
  unfold eqN
  rw [eqW_ok 60 t _ _ _ h]
  rfl
end
/-! short names for the commonest steps -/
theorem dT {p : Prop} [Decidable p] (h : decide p = true) : p := of_decide_eq_true h
theorem dF {p : Prop} [Decidable p] (h : decide p = false) : ¬ p := of_decide_eq_false h
theorem nT {x : Bool} (h : (!x) = true) : x = false := by cases x <;> first | rfl | cases h
theorem nF {x : Bool} (h : (!x) = false) : x = true := by cases x <;> first | rfl | cases h
section
variable {P : Program} {nat : Nats} {N : Nat} {B : Base} {al : AL} {g : G} {ml : ML} {ops l : List Oper} {R : OQ} {d ty : Nat} {pos : String} {af : Array Edge} {v : V} {x : Operand}
theorem Wo.ixk {α : Type} {S : G → List V → α → Prop} {s : Nat} {m : List α} {t : TypeId} {x i : Operand} {k : IntKind} {j : Nat} {y : α} {gd : Option (Nat × Bool)} (hg : Gd ops al gd) (hd : Nat.blt d N = true)
    (hx : vA al x = some v) (h : RS S s g v m) (hi : vA al i = some (.i k (j : Int))) (ht : seO P t = some s) (hy : m[j]? = some y)
    (kk : ∀ b o cs, Pt g b o cs → S g cs y → Wo P nat N B ops l ((d, .p b o) :: al) g ml R) : Wo P nat N B ops (⟨some d, .indexAddr t x i, ty, pos, af, gd⟩ :: l) al g ml R :=
  .ixn hg hd hx h hi ht (atN_lt hy) fun b o cs y' h1 h2 h3 => by
    obtain rfl := same hy h1
    exact kk b o cs h2 h3
theorem Wo.ixl {α : Type} {S : G → List V → α → Prop} {s : Nat} {m : List α} {t : TypeId} {x i : Operand} {k : IntKind} {j : Int} {y : α} {gd : Option (Nat × Bool)} (hg : Gd ops al gd) (hd : Nat.blt d N = true)
    (hx : vA al x = some v) (h : RS S s g v m) (hi : vA al i = some (.i k j)) (ht : seO P t = some s) (hy : atI m j = some y)
    (kk : ∀ b o cs, Pt g b o cs → S g cs y → Wo P nat N B ops l ((d, .p b o) :: al) g ml R) : Wo P nat N B ops (⟨some d, .indexAddr t x i, ty, pos, af, gd⟩ :: l) al g ml R :=
  .ixi hg hd hx h hi ht (atI_lt hy) fun b o cs y' h1 h2 h3 => by
    obtain rfl := same (atI_get hy) h1
    exact kk b o cs h2 h3
end
section
variable {P : Program} {nat : Nats} {N : Nat} {B : Base} {al : AL} {ops l : List Oper} {a : Ri} {tb : List Ri} {i0 : Nat} {sg : List Sg} {ls : List (Nat × Nat)} {ps : List Pd2} {R : OQ} {d ty : Nat} {pos : String} {af : Array Edge} {v : V} {x : Operand}
theorem Wd.ixk {α : Type} {S : G → List V → α → Prop} {g : G} {s : Nat} {m : List α} {t : TypeId} {x i : Operand} {k : IntKind} {j : Nat} {y : α} {gd : Option (Nat × Bool)} (hg : Gd ops al gd) (hd : Nat.blt d N = true)
    (hx : vA al x = some v) (h : RS S s g v m) (hi : vA al i = some (.i k (j : Int))) (ht : seO P t = some s) (hy : m[j]? = some y)
    (kk : ∀ b o cs, Pt g b o cs → S g cs y → Wd P nat N B ops l tb (i0 + 1) ((d, .p b o) :: al) sg ls ps R) : Wd P nat N B ops (⟨some d, .indexAddr t x i, ty, pos, af, gd⟩ :: l) (a :: tb) i0 al sg ls ps R :=
  .ixn hg hd hx h hi ht (atN_lt hy) fun b o cs y' h1 h2 h3 => by
    obtain rfl := same hy h1
    exact kk b o cs h2 h3
theorem Wd.ixl {α : Type} {S : G → List V → α → Prop} {g : G} {s : Nat} {m : List α} {t : TypeId} {x i : Operand} {k : IntKind} {j : Int} {y : α} {gd : Option (Nat × Bool)} (hg : Gd ops al gd) (hd : Nat.blt d N = true)
    (hx : vA al x = some v) (h : RS S s g v m) (hi : vA al i = some (.i k j)) (ht : seO P t = some s) (hy : atI m j = some y)
    (kk : ∀ b o cs, Pt g b o cs → S g cs y → Wd P nat N B ops l tb (i0 + 1) ((d, .p b o) :: al) sg ls ps R) : Wd P nat N B ops (⟨some d, .indexAddr t x i, ty, pos, af, gd⟩ :: l) (a :: tb) i0 al sg ls ps R :=
  .ixi hg hd hx h hi ht (atI_lt hy) fun b o cs y' h1 h2 h3 => by
    obtain rfl := same (atI_get hy) h1
    exact kk b o cs h2 h3
end
/-- the elements of a short array. -/
def arr {α : Type} (l : List α) (z : α) : Nat → α := fun i => l.getD i z
end Go.Ev

/- Opening of arguments, printed whole. -/
namespace Go.Ev
open Go Go.WideShapes
set_option linter.unusedVariables false
theorem aVs_cut {s o n : Nat} {cs : List Value} {l r : List V} (h : aVs s ((cs.drop o).take n) = l) (k : aVs s (cs.drop (o + n)) = r) : aVs s (cs.drop o) = l ++ r := by
  rw [← h, ← k, ← aVs_app, ← List.drop_drop, List.take_append_drop]
theorem aVs_end {s o : Nat} {cs : List Value} (h : cs.length ≤ o) : aVs s (cs.drop o) = [] := by
  rw [List.drop_eq_nil_of_le h]; simp only [aVs]
theorem okWide_arrayE {P : Program} {w : World} {r : Reach} {base : Nat} {t : TypeId} {v : Value} {n : Nat} {e : TypeId} (ht : P.underlying t = some (.array n e)) (h : Value.okWide P w r base t v) : ∃ cs, v = .agg cs ∧ cs.size = P.cellsOf t := by
  simp only [Value.okWide, ht] at h
  obtain ⟨cs, h1, h2, _⟩ := h
  exact ⟨cs, h1, h2⟩
/-- slices of slices. -/
def SlR {α : Type} (R : G → List V → α → Prop) (s : Nat) (g : G) (cs : List V) (l : List α) : Prop := ∃ v, cs = [v] ∧ RS R s g v l
theorem SlR.mono {α : Type} {R : G → List V → α → Prop} (hR : ∀ g g' cs x, Le g g' → R g cs x → R g' cs x) {s : Nat} : ∀ g g' cs x, Le g g' → SlR R s g cs x → SlR R s g' cs x := fun _ _ _ _ hl ⟨v, h1, h2⟩ => ⟨v, h1, h2.mono hR hl⟩
end Go.Ev
