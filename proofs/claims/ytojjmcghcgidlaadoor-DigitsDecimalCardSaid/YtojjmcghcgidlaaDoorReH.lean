/- What the reference's digit and plain of chapter 4 answer. -/
import Derived.Test.YtojjmcghcgidlaaDoorRdS2
namespace Go.Proofs.YtojjmcghcgidlaaDoor.Rd
open Go Go.RowKit
set_option linter.unusedVariables false
set_option linter.unusedSimpArgs false
set_option maxRecDepth 100000

set_option maxHeartbeats 4000000 in
theorem ref04_digit (c base : Nat) (hc : c ≤ 255) (hb : base ≤ 16) : Gives Tryd.prog 29 #[.int .u8 c, .int .i64 base] (.int .i64 (if val c < base then (val c : Int) else -1)) := by
  intro w0
  have hst := St.start [] w0
  have h0 : (0 : Int) ≤ (c : Int) := by omega
  have h1 : (c : Int) ≤ 255 := by omega
  have h2 : (base : Int) ≤ 16 := by omega
  have h3 : (0 : Int) ≤ (base : Int) := by omega
  by_cases hA : 48 ≤ c ∧ c ≤ 57
  · have hv : val c = c - 48 := by unfold val; rw [if_pos hA]
    have g1 : (48 : Int) ≤ (c : Int) := by omega
    have g2 : (c : Int) ≤ 57 := by omega
    by_cases hlt : val c < base
    · rw [if_pos hlt]
      have e : (val c : Int) = (c : Int) - 48 := by omega
      have g3 : ¬ ((base : Int) ≤ (c : Int) - 48) := by omega
      rw [e]
      clear e hv hlt hA
      go_enter Tryd.func29, Tryd.ntmps29
      go_wp2_with fail
      refine bp_t rfl rfl (by rfl) ⟨?_, hst.keeps⟩
      rfl
    · rw [if_neg hlt]
      have g3 : ((base : Int) ≤ (c : Int) - 48) := by omega
      clear hv hlt hA
      go_enter Tryd.func29, Tryd.ntmps29
      go_wp2_with fail
      refine bp_t rfl rfl (by rfl) ⟨?_, hst.keeps⟩
      rfl
  · by_cases hB : 97 ≤ c ∧ c ≤ 102
    · have hv : val c = c - 87 := by unfold val; rw [if_neg hA, if_pos hB]
      have g1 : (97 : Int) ≤ (c : Int) := by omega
      have g2 : (c : Int) ≤ 102 := by omega
      by_cases hlt : val c < base
      · rw [if_pos hlt]
        have e : (val c : Int) = (c : Int) - 97 + 10 := by omega
        have g3 : ¬ ((base : Int) ≤ (c : Int) - 97 + 10) := by omega
        rw [e]
        clear e hv hlt hA hB
        go_enter Tryd.func29, Tryd.ntmps29
        go_wp2_with fail
        refine bp_t rfl rfl (by rfl) ⟨?_, hst.keeps⟩
        rfl
      · rw [if_neg hlt]
        have g3 : ((base : Int) ≤ (c : Int) - 97 + 10) := by omega
        clear hv hlt hA hB
        go_enter Tryd.func29, Tryd.ntmps29
        go_wp2_with fail
        refine bp_t rfl rfl (by rfl) ⟨?_, hst.keeps⟩
        rfl
    · have hv : val c = 99 := by unfold val; rw [if_neg hA, if_neg hB]
      have hlt : ¬ val c < base := by omega
      rw [if_neg hlt]
      have g3 : ¬ ((base : Int) ≤ -1) := by omega
      have k1 : c < 48 ∨ (57 < c ∧ c < 97) ∨ 102 < c := by omega
      clear hv hlt hA hB
      rcases k1 with k | ⟨k, k'⟩ | k
      · have q1 : (c : Int) < 48 := by omega
        go_enter Tryd.func29, Tryd.ntmps29
        go_wp2_with fail
        refine bp_t rfl rfl (by rfl) ⟨?_, hst.keeps⟩
        rfl
      · have q1 : (57 : Int) < (c : Int) := by omega
        have q2 : (c : Int) < 97 := by omega
        go_enter Tryd.func29, Tryd.ntmps29
        go_wp2_with fail
        refine bp_t rfl rfl (by rfl) ⟨?_, hst.keeps⟩
        rfl
      · have q1 : (102 : Int) < (c : Int) := by omega
        go_enter Tryd.func29, Tryd.ntmps29
        go_wp2_with fail
        refine bp_t rfl rfl (by rfl) ⟨?_, hst.keeps⟩
        rfl

end Go.Proofs.YtojjmcghcgidlaaDoor.Rd
