/- What digits.divide answers. -/
import Derived.Test.YtojjmcghcgidlaaDoorRdG
namespace Go.Proofs.YtojjmcghcgidlaaDoor.Rd
open Go Go.RowKit
set_option linter.unusedVariables false
set_option linter.unusedSimpArgs false
set_option maxRecDepth 100000

/-- n, of which the limbs from k upwards are those of n / d. -/
def mixd (n d k : Nat) : Nat := n % B ^ k + n / d / B ^ k * B ^ k
theorem mixd_top (n d : Nat) (hn : n < M) : mixd n d 8 = n := by
  unfold mixd
  rw [← M_eq, Nat.mod_eq_of_lt hn, Nat.div_eq_of_lt (a := n / d) (Nat.lt_of_le_of_lt (Nat.div_le_self _ _) hn)]
  simp
theorem mixd_zero (n d : Nat) : mixd n d 0 = n / d := by simp [mixd, Nat.mod_one]
theorem lb_mixd_at (n d k : Nat) : lb (mixd n d (k + 1)) k = lb n k := by
  have h := lb_part n 0 (k + 1) k (by omega)
  have h2 := lb_part (mixd n d (k + 1)) 0 (k + 1) k (by omega)
  simp only [Nat.pow_zero, Nat.div_one, Nat.zero_add] at h h2
  rw [← h2, ← h]
  congr 1
  unfold mixd
  rw [Nat.add_mul_mod_self_right, Nat.mod_mod]
theorem div_limb (n d k : Nat) (hd : 0 < d) : (n / B ^ (k + 1) % d * B + lb n k) / d = lb (n / d) k ∧ (n / B ^ (k + 1) % d * B + lb n k) % d = n / B ^ k % d := by
  have e : n / B ^ k = n / B ^ (k + 1) * B + lb n k := by
    have := Nat.div_add_mod (n / B ^ k) B
    rw [Nat.div_div_eq_div_mul, show B ^ k * B = B ^ (k + 1) from rfl] at this
    unfold lb
    rw [Nat.mul_comm (n / B ^ (k + 1))]; exact this.symm
  have ed := Nat.div_add_mod (n / B ^ (k + 1)) d
  have e3 : n / B ^ k = (n / B ^ (k + 1) % d * B + lb n k) + n / B ^ (k + 1) / d * B * d := by
    rw [e]
    conv => lhs; rw [← ed]
    rw [Nat.add_mul, Nat.mul_assoc, Nat.mul_comm d]
    omega
  have hr : n / B ^ (k + 1) % d < d := Nat.mod_lt _ hd
  have hlt : (n / B ^ (k + 1) % d * B + lb n k) / d < B := by
    rw [Nat.div_lt_iff_lt_mul hd]
    have h1 : (n / B ^ (k + 1) % d + 1) * B ≤ d * B := Nat.mul_le_mul_right _ hr
    rw [Nat.add_mul, Nat.one_mul] at h1
    have := lb_lt n k
    rw [Nat.mul_comm B d]; omega
  constructor
  · unfold lb at hlt ⊢
    rw [Nat.div_div_eq_div_mul n d, Nat.mul_comm d, ← Nat.div_div_eq_div_mul]
    conv => rhs; rw [e3]
    rw [Nat.add_mul_div_right _ _ hd, Nat.add_mul_mod_self_right]
    unfold lb
    rw [Nat.mod_eq_of_lt hlt]
  · rw [e3, Nat.add_mul_mod_self_right]
theorem mixd_step (n d k : Nat) (hd : 0 < d) : setL (mixd n d (k + 1)) k (lb (n / d) k) = mixd n d k := by
  unfold setL
  have h1 : mixd n d (k + 1) / B ^ (k + 1) = n / d / B ^ (k + 1) := by
    unfold mixd
    rw [Nat.add_mul_div_right _ _ (Bp_pos _), Nat.div_eq_of_lt (Nat.mod_lt _ (Bp_pos _)), Nat.zero_add]
  have h2 : mixd n d (k + 1) % B ^ k = n % B ^ k := by
    have e : mixd n d (k + 1) = n % B ^ (k + 1) + n / d / B ^ (k + 1) * B * B ^ k := by
      unfold mixd; rw [Nat.pow_succ', Nat.mul_assoc]
    rw [e, Nat.add_mul_mod_self_right, Nat.pow_succ, Nat.mod_mul_right_mod]
  rw [h1, h2]
  unfold mixd
  have := Nat.div_add_mod (n / d / B ^ k) B
  rw [Nat.div_div_eq_div_mul _ (B ^ k), show B ^ k * B = B ^ (k + 1) from rfl] at this
  unfold lb
  have e2 : n / d / B ^ (k + 1) * B ^ (k + 1) = B * (n / d / B ^ (k + 1)) * B ^ k := by
    rw [Nat.mul_comm B]; simp only [Nat.pow_succ', Nat.mul_assoc]
  rw [e2, Nat.add_assoc, ← Nat.add_mul, Nat.add_comm (_ % _) (B * _), this]

set_option maxHeartbeats 4000000 in
theorem digits_divide (n d : Nat) (hn : n < M) (hd : 0 < d) (hdB : d < B)
    (hdiv : ∀ hi lo, hi < d → lo < B → Gives Tryd.prog 53 #[.int .u64 (hi : Nat), .int .u64 (lo : Nat), .int .u64 d] (.tuple #[.int .u64 ((hi * B + lo) / d : Nat), .int .u64 ((hi * B + lo) % d : Nat)])) :
    Gives Tryd.prog 37 #[W n, .int .u64 d] (.tuple #[W (n / d), .int .u64 (n % d : Nat)]) := by
  intro w0
  have hst := St.start [] w0
  go_enter Tryd.func37, Tryd.ntmps37
  go_wp2_with ((first | (refine kb 2 hst rfl rfl ?_; clear hst; intro b2 w hb2 hst) | (refine ka 4 hst tz24 rfl rfl ?_; clear hst; intro b4 w hb4 hst) | (refine kc hst tc22 rfl ?_) | (refine ks hst tc22 rfl rfl ?_; clear hst; intro w hst) | (refine kl hst ta24 rfl ?_) | (refine kt hst ta24 rfl rfl ?_; clear hst; intro w hst)); try simp only [pz, pn, sz, sc])
  go_loopw [7, 6] (fun i r wr => ∃ (t : Nat), t ≤ 8 ∧ i = .int .i64 ((t : Int) - 1) ∧ r = .int .u64 (n / B ^ t % d : Nat) ∧ St w0 [] [(b4, .cells (wc 8 0) 24), (b2, .cells (wc 8 (mixd n d t)) 24)] wr) (fun i _ _ => (intOf i + 1).toNat)
  case atStart => 
    refine ⟨8, by omega, by go_num, ?_, ?_⟩
    · rw [← M_eq, Nat.div_eq_of_lt hn]; simp
    · rw [mixd_top n d hn]; exact hst
  case round =>
    clear hst
    obtain ⟨t, ht, rfl, rfl, hst⟩ := hrel
    cases t with
    | zero =>
      rw [mixd_zero] at hst
      simp only [Nat.pow_zero, Nat.div_one]
      go_wp2_with ((first | (refine kb 2 hst rfl rfl ?_; clear hst; intro b2 w hb2 hst) | (refine ka 4 hst tz24 rfl rfl ?_; clear hst; intro b4 w hb4 hst) | (refine kc hst tc22 rfl ?_) | (refine ks hst tc22 rfl rfl ?_; clear hst; intro w hst) | (refine kl hst ta24 rfl ?_) | (refine kt hst ta24 rfl rfl ?_; clear hst; intro w hst)); try simp only [pz, pn, sz, sc])
      refine bp_ct rfl rfl (la hst ta24) (by rfl) ⟨?_, hst.keeps⟩
      rfl
    | succ k =>
      have h8 : (0 : Int) ≤ (k : Int) := by omega
      have h9 : (k : Int) < 8 := by omega
      have hc := hdiv (n / B ^ (k + 1) % d) (lb n k) (Nat.mod_lt _ hd) (lb_lt _ _)
      obtain ⟨e1, e2⟩ := div_limb n d k hd
      rw [e1, e2, ← lb_mixd_at n d k] at hc
      have e3 := wc_setL 8 (mixd n d (k + 1)) k _ (lb_lt (n / d) k)
      rw [mixd_step n d k hd] at e3
      have e3' := Lib.hid e3
      have ek : ((k + 1 : Nat) : Int) - 1 = (k : Int) := by omega
      rw [ek]
      clear e1 e2 e3 ek
      go_wp2_with ((first | (refine kf gf53 hst (hc) rfl rfl rfl rfl ?_; clear hst; intro w hst) | (refine kb 2 hst rfl rfl ?_; clear hst; intro b2 w hb2 hst) | (refine ka 4 hst tz24 rfl rfl ?_; clear hst; intro b4 w hb4 hst) | (refine kc hst tc22 rfl ?_) | (refine ks hst tc22 rfl rfl ?_; clear hst; intro w hst; (try rw [e3'.out] at hst)) | (refine kl hst ta24 rfl ?_) | (refine kt hst ta24 rfl rfl ?_; clear hst; intro w hst; (try rw [e3'.out] at hst))); try simp only [pz, pn, sz, sc])
      go_roundw
      case rel => exact ⟨k, by omega, by go_num, rfl, hst⟩
      case measure => simp [intOf]

end Go.Proofs.YtojjmcghcgidlaaDoor.Rd
