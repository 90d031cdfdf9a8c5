/- Facts on the bits and the wraps of words. -/
import Derived.Test.YtojjmcghcgidlaaDoorRdE
namespace Go.Proofs.YtojjmcghcgidlaaDoor.Rd
open Go Go.RowKit
set_option linter.unusedVariables false
set_option linter.unusedSimpArgs false
set_option maxRecDepth 100000

theorem or_low (a b s : Nat) (ha : a * 2 ^ s < B) (hb : b < 2 ^ s) (hB : b < B) : bits .or .u64 ((a * 2 ^ s : Nat) : Int) (b : Int) = ((a * 2 ^ s + b : Nat) : Int) := by
  rw [bits_or_u64_nat _ _ (by rw [← B_val]; exact ha) (by rw [← B_val]; exact hB)]
  congr 1
  rw [Nat.mul_comm, Nat.two_pow_add_eq_or_of_lt hb]
theorem wrap_sub_nat (a b c : Nat) (h : a = b + c) (hc : c < B) : IntKind.u64.wrap ((a : Int) - (b : Int)) = (c : Int) := by
  rw [show (a : Int) - (b : Int) = (c : Int) by omega, u64_wrap, Nat.mod_eq_of_lt hc]
theorem wrap_sub_mod (a b c : Nat) (h : (a + (B - b)) % B = c) (hb : b < B) : IntKind.u64.wrap ((a : Int) - (b : Int)) = (c : Int) := by
  rw [B_val] at *
  show ((a : Int) - (b : Int)) % 18446744073709551616 = _
  omega
theorem u64_wrap' (x : Int) (n c : Nat) (h : x = (n : Int)) (hc : n % B = c) : IntKind.u64.wrap x = (c : Int) := by
  rw [h, u64_wrap, hc]

theorem and_low (a : Nat) (ha : a < B) : bits .and .u64 (a : Int) 4294967295 = ((a % 4294967296 : Nat) : Int) := by
  have := bits_and_u64_nat a 4294967295 (by rw [← B_val]; exact ha) (by omega)
  rw [show ((4294967295 : Nat) : Int) = 4294967295 from rfl] at this
  rw [this]
  congr 1
  exact Nat.and_two_pow_sub_one_eq_mod a 32

end Go.Proofs.YtojjmcghcgidlaaDoor.Rd
