/- The bodies of DigitsDecimal and DigitsRead. -/
import Derived.Test.YtojjmcghcgidlaaGreatDoorReM
namespace Go.Proofs.YtojjmcghcgidlaaGreatDoor.Rd
open Go Go.RowKit
set_option linter.unusedVariables false
set_option linter.unusedSimpArgs false
set_option maxRecDepth 100000

theorem tens_len {n k : Nat} (hn : n < M) (h : NumDig 10 n k) : k ≤ 155 := by
  obtain ⟨h1, h2, h3⟩ := h
  rcases h3 with h | h
  · omega
  · have h4 : 10 ^ (k - 1) ≤ n := by
      rcases Nat.lt_or_ge n (10 ^ (k - 1)) with h' | h'
      · exact absurd (Nat.div_eq_of_lt h') h
      · exact h'
    have h5 : M < 10 ^ 155 := by decide +kernel
    have h6 := (Nat.pow_lt_pow_iff_right (a := 10) (by omega)).1 (Nat.lt_of_le_of_lt h4 (Nat.lt_trans hn h5))
    omega

theorem rd_lt (base : Nat) (l : List UInt8) : (rd base l).1 < M := by
  have h0 : 0 < M := by decide
  unfold rd
  split
  · split
    · assumption
    · exact h0
  · exact h0

end Go.Proofs.YtojjmcghcgidlaaGreatDoor.Rd
