/- What wide.Power and the layer prod answer, as numbers. -/
import Derived.Test.YtojjmcghcgidlaaDoorRdE
namespace Go.Proofs.YtojjmcghcgidlaaDoor.Rd
open Go Go.RowKit
set_option linter.unusedVariables false
set_option linter.unusedSimpArgs false
set_option maxRecDepth 100000

theorem two_pow_limb (n : Nat) : 2 ^ n = 2 ^ (n % 64) * B ^ (n / 64) := by
  have : B ^ (n / 64) = 2 ^ (64 * (n / 64)) := by unfold B; rw [← Nat.pow_mul]
  rw [this, ← Nat.pow_add]
  congr 1
  omega

/-- What wide.Power answers. -/
def pow2 (n : Int) : Nat := if 0 ≤ n ∧ n < 512 then 2 ^ n.toNat else 0

set_option maxHeartbeats 1000000 in
theorem wide_Power (n : Int) : Gives Tryd.prog 26 #[.int .i64 n] (W (pow2 n)) := by
  intro w0
  have hst := St.start [] w0
  by_cases h0 : 0 ≤ n
  · by_cases h1 : n < 512
    · have hq : 0 ≤ n / 64 ∧ n / 64 < 8 := by omega
      have hr : 0 ≤ n % 64 ∧ n % 64 < 64 := by omega
      obtain ⟨hq1, hq2⟩ := hq
      obtain ⟨hr1, hr2⟩ := hr
      have hset : (wc 8 0).setIfInBounds (n / 64).toNat (.int .u64 (IntKind.u64.wrap (2 ^ (n % 64).toNat))) = wc 8 (pow2 n) := by
        obtain ⟨m, rfl⟩ := Int.eq_ofNat_of_zero_le h0
        have e1 : ((m : Int) / 64).toNat = m / 64 := by omega
        have e2 : ((m : Int) % 64).toNat = m % 64 := by omega
        have e3 : 2 ^ (m % 64) < B := Nat.pow_lt_pow_right (by omega) (by omega)
        have e4 : IntKind.u64.wrap (2 ^ (m % 64)) = ((2 ^ (m % 64) : Nat) : Int) := by
          rw [cast_pow2, u64_wrap, Nat.mod_eq_of_lt e3]
        rw [e1, e2, e4, wc_set 8 0 _ _ (Bp_pos _) e3, Nat.zero_add, ← two_pow_limb]
        have : pow2 (m : Int) = 2 ^ m := by simp [pow2]; omega
        rw [this]
      have hset' := Lib.hid hset
      clear hset
      go_enter Tryd.func26, Tryd.ntmps26
      go_wp2_with ((first | (refine ka 2 hst tz24 rfl rfl ?_; clear hst; intro b2 w hb2 hst) | (refine ka 3 hst tz24 rfl rfl ?_; clear hst; intro b3 w hb3 hst) | (refine ks hst tc22 rfl rfl ?_; clear hst; intro w hst; (try rw [hset'.out] at hst)) | (refine kl hst ta24 rfl ?_) | (refine kt hst ta24 rfl rfl ?_; clear hst; intro w hst; (try rw [hset'.out] at hst))); try simp only [pz, pn, sz, sc])
      refine bp_c rfl rfl (la hst ta24) ⟨?_, hst.keeps⟩
      rfl
    · go_enter Tryd.func26, Tryd.ntmps26
      go_wp2_with ((first | (refine ka 2 hst tz24 rfl rfl ?_; clear hst; intro b2 w hb2 hst) | (refine ka 3 hst tz24 rfl rfl ?_; clear hst; intro b3 w hb3 hst) | (refine ks hst tc22 rfl rfl ?_; clear hst; intro w hst) | (refine kl hst ta24 rfl ?_) | (refine kt hst ta24 rfl rfl ?_; clear hst; intro w hst)); try simp only [pz, pn, sz, sc])
      refine bp_c rfl rfl (la hst ta24) ⟨?_, hst.keeps⟩
      have e : pow2 n = 0 := by unfold pow2; rw [if_neg (by omega)]
      rw [e]; rfl
  · go_enter Tryd.func26, Tryd.ntmps26
    go_wp2_with ((first | (refine ka 2 hst tz24 rfl rfl ?_; clear hst; intro b2 w hb2 hst) | (refine ka 3 hst tz24 rfl rfl ?_; clear hst; intro b3 w hb3 hst) | (refine ks hst tc22 rfl rfl ?_; clear hst; intro w hst) | (refine kl hst ta24 rfl ?_) | (refine kt hst ta24 rfl rfl ?_; clear hst; intro w hst)); try simp only [pz, pn, sz, sc])
    refine bp_c rfl rfl (la hst ta24) ⟨?_, hst.keeps⟩
    have e : pow2 n = 0 := by unfold pow2; rw [if_neg (by omega)]
    rw [e]; rfl

end Go.Proofs.YtojjmcghcgidlaaDoor.Rd
