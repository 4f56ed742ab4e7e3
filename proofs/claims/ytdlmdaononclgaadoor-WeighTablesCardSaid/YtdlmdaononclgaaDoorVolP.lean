import Derived.Test.YtdlmdaononclgaaDoorMC
import Derived.Test.YtdlmdaononclgaaDoorVol
/- Plain: the volume as sums over stations and over waters. -/
namespace Go.Proofs.YtdlmdaononclgaaDoor
open Go.RowKit
set_option linter.unusedVariables false
set_option linter.unusedSimpArgs false

theorem dotK_sm (ws ys : List Int) : ∀ n, dotK ws ys n = sm ws (fun j => ix ys j) n
  | 0 => rfl
  | n + 1 => by rw [dotK, sm, dotK_sm ws ys n]
theorem sm_add (ws : List Int) (f g : Nat → Int) : ∀ n, sm ws (fun j => f j + g j) n = sm ws f n + sm ws g n
  | 0 => by simp [sm]
  | n + 1 => by rw [sm, sm, sm, sm_add ws f g n]; grind
theorem sm_mul (c : Int) (ws : List Int) (f : Nat → Int) : ∀ n, sm ws (fun j => c * f j) n = c * sm ws f n
  | 0 => by simp [sm]
  | n + 1 => by rw [sm, sm, sm_mul c ws f n]; grind
theorem sm_swap (a b : List Int) (H : Nat → Nat → Int) (n m : Nat) : sm a (fun i => sm b (H i) m) n = sm b (fun k => sm a (fun i => H i k) n) m := by
  induction m with
  | zero => simp only [sm]; induction n with
    | zero => rfl
    | succ n ih => rw [sm, ih]; omega
  | succ m ih =>
    rw [sm, ← ih]
    have : (fun i => sm b (H i) (m + 1)) = fun i => sm b (H i) m + ix b m * H i m := funext fun i => by rw [sm]
    rw [this, sm_add, sm_mul]

theorem i64_add (x y : Int) : IntKind.i64.wrap (IntKind.i64.wrap x + y) = IntKind.i64.wrap (x + y) := by
  simp only [IntKind.wrap, IntKind.bits, IntKind.signed]; simp [Int.bmod_def, Int.emod_emod_of_dvd] <;> omega

/-- the volume, exact. -/
def volE (a b : List Int) (H : Nat → Nat → Int) (m : Nat) : Nat → Int
  | 0 => 0
  | t + 1 => volE a b H m t + 2 * (ix a (t / m) * ix b (t % m)) * H (t / m) (t % m)
theorem volE_at (a b : List Int) (H : Nat → Nat → Int) {m : Nat} (hm : 0 < m) : ∀ i k, k ≤ m → volE a b H m (i * m + k) = 2 * (sm a (fun i => sm b (H i) m) i + ix a i * sm b (H i) k) := by
  intro i
  induction i with
  | zero =>
    intro k
    induction k with
    | zero => intro _; simp [volE, sm]
    | succ k ih =>
      intro hk
      have := ih (by omega)
      rw [Nat.zero_mul, Nat.zero_add] at this ⊢
      rw [volE, this, Nat.div_eq_of_lt (by omega), Nat.mod_eq_of_lt (by omega)]; simp only [sm]; grind
  | succ i ihi =>
    intro k
    induction k with
    | zero =>
      intro _
      have := ihi m (Nat.le_refl _)
      rw [Nat.add_zero, Nat.succ_mul, this, sm, sm]; grind
    | succ k ih =>
      intro hk
      have := ih (by omega)
      have e1 : ((i + 1) * m + k) / m = i + 1 := by rw [Nat.mul_comm, Nat.mul_add_div hm, Nat.div_eq_of_lt (by omega), Nat.add_zero]
      have e2 : ((i + 1) * m + k) % m = k := by rw [Nat.mul_comm, Nat.mul_add_mod, Nat.mod_eq_of_lt (by omega)]
      rw [← Nat.add_assoc, volE, this, e1, e2]; simp only [sm]; grind

end Go.Proofs.YtdlmdaononclgaaDoor
