/- The mathematics of division by restoring: a digit. -/
import Derived.Test.YtggchelniblipaaGreatJ01
namespace Go.Proofs.YtggchelniblipaaGreat.Rd
set_option linter.unusedVariables false
set_option maxRecDepth 100000

theorem div_digit (n t : Nat) (ht : 0 < t) : (n % (2 * t) < t → n / t = 2 * (n / (2 * t)) ∧ n % t = n % (2 * t)) ∧ (¬ n % (2 * t) < t → n / t = 2 * (n / (2 * t)) + 1 ∧ n % t = n % (2 * t) - t) := by
  have h1 := Nat.div_add_mod n (2 * t)
  have h2 := Nat.mod_lt n (show 0 < 2 * t by omega)
  generalize n / (2 * t) = q at *
  generalize n % (2 * t) = r at *
  have e : 2 * t * q = t * (2 * q) := by grind
  constructor
  · intro h
    have hn : n = t * (2 * q) + r := by omega
    subst hn
    exact ⟨by rw [Nat.mul_add_div ht, Nat.div_eq_of_lt h, Nat.add_zero], by rw [Nat.mul_add_mod, Nat.mod_eq_of_lt h]⟩
  · intro h
    have hn : n = t * (2 * q + 1) + (r - t) := by rw [Nat.mul_add, Nat.mul_one]; omega
    rw [hn]
    exact ⟨by rw [Nat.mul_add_div ht, Nat.div_eq_of_lt (by omega), Nat.add_zero], by rw [Nat.mul_add_mod, Nat.mod_eq_of_lt (by omega)]⟩
/-- The quotient's digits from place j on, and what is left behind them. -/
def dvQ (n d j : Nat) : Nat := n / (d * 2 ^ j)
def dvL (n d j : Nat) : Nat := n % (d * 2 ^ j)
theorem dv_step (n d j : Nat) (hd : 0 < d) : (dvL n d (j + 1) < d * 2 ^ j → dvQ n d j = 2 * dvQ n d (j + 1) ∧ dvL n d j = dvL n d (j + 1)) ∧ (¬ dvL n d (j + 1) < d * 2 ^ j → dvQ n d j = 2 * dvQ n d (j + 1) + 1 ∧ dvL n d j = dvL n d (j + 1) - d * 2 ^ j) := by
  unfold dvQ dvL
  have e : d * 2 ^ (j + 1) = 2 * (d * 2 ^ j) := by rw [Nat.pow_succ]; grind
  rw [e]
  exact div_digit n (d * 2 ^ j) (Nat.mul_pos hd (Nat.pow_pos (by omega)))
theorem dv_top (n d : Nat) (h : n < d * 2 ^ 128) : dvQ n d 128 = 0 ∧ dvL n d 128 = n := ⟨Nat.div_eq_of_lt h, Nat.mod_eq_of_lt h⟩
theorem dv_end (n d : Nat) : dvQ n d 0 = n / d ∧ dvL n d 0 = n % d := by unfold dvQ dvL; rw [Nat.pow_zero, Nat.mul_one]; exact ⟨rfl, rfl⟩

end Go.Proofs.YtggchelniblipaaGreat.Rd
