/- What prod.whole, Mul and Small answer, as numbers. -/
import Derived.Test.YtojjmcghcgidlaaDoorRdG
namespace Go.Proofs.YtojjmcghcgidlaaDoor.Rd
open Go Go.RowKit
set_option linter.unusedVariables false
set_option linter.unusedSimpArgs false
set_option maxRecDepth 100000

/-- The limbs' products of one row, as p tells which places count. -/
def inner (p : Nat → Bool) (a b i : Nat) : Nat → Nat
  | 0 => 0
  | k + 1 => inner p a b i k + if p (i + k) = true then lb a i * lb b k * B ^ (i + k) else 0
/-- All rows. -/
def outer (p : Nat → Bool) (a b : Nat) : Nat → Nat
  | 0 => 0
  | i + 1 => outer p a b i + inner p a b i 8

theorem term_le (a b i k : Nat) (hi : i < 8) (hk : k < 8) : lb a i * lb b k * B ^ (i + k) ≤ B ^ 16 := by
  have h1 : lb a i * lb b k ≤ B * B := Nat.mul_le_mul (Nat.le_of_lt (lb_lt _ _)) (Nat.le_of_lt (lb_lt _ _))
  have h2 : B ^ (i + k) ≤ B ^ 14 := Nat.pow_le_pow_right B_pos (by omega)
  have h3 : B ^ 16 = B * B * B ^ 14 := by rw [Nat.pow_succ, Nat.pow_succ, Nat.mul_assoc, Nat.mul_comm]
  rw [h3]
  exact Nat.mul_le_mul h1 h2
theorem inner_le (p : Nat → Bool) (a b i : Nat) (hi : i < 8) : ∀ k, k ≤ 8 → inner p a b i k ≤ k * B ^ 16
  | 0, _ => by simp [inner]
  | k + 1, hk => by
    have h1 := inner_le p a b i hi k (by omega)
    have h2 := term_le a b i k hi (by omega)
    simp only [inner]
    rw [Nat.add_mul, Nat.one_mul]
    split <;> omega
theorem outer_le (p : Nat → Bool) (a b : Nat) : ∀ i, i ≤ 8 → outer p a b i ≤ i * 8 * B ^ 16
  | 0, _ => by simp [outer]
  | i + 1, hi => by
    have h1 := outer_le p a b i (by omega)
    have h2 := inner_le p a b i (by omega) 8 (by omega)
    simp only [outer]
    have : (i + 1) * 8 * B ^ 16 = i * 8 * B ^ 16 + 8 * B ^ 16 := by rw [Nat.add_mul, Nat.add_mul]
    omega

/-- What is gathered so far. -/
def far (p : Nat → Bool) (a b i k : Nat) : Nat := outer p a b i + inner p a b i k
theorem far_lt (p : Nat → Bool) (a b i k : Nat) (hi : i < 8) (hk : k ≤ 8) : far p a b i k ≤ 64 * B ^ 16 := by
  have h1 := outer_le p a b i (by omega)
  have h2 := inner_le p a b i hi k hk
  unfold far
  have h3 : k * B ^ 16 ≤ 8 * B ^ 16 := Nat.mul_le_mul_right _ hk
  have h4 : i * 8 * B ^ 16 ≤ 56 * B ^ 16 := Nat.mul_le_mul_right _ (by omega)
  have h5 : 64 * B ^ 16 = 56 * B ^ 16 + 8 * B ^ 16 := by rw [← Nat.add_mul]
  omega
theorem B17 : B ^ 17 = B * B ^ 16 := by rw [Nat.pow_succ, Nat.mul_comm]
theorem far_lt' (p : Nat → Bool) (a b i k : Nat) (hi : i < 8) (hk : k ≤ 8) : far p a b i k < B ^ 17 := by
  have := far_lt p a b i k hi hk
  have h2 : 65 * B ^ 16 ≤ B * B ^ 16 := Nat.mul_le_mul_right _ (by rw [B_val]; omega)
  have h3 : 0 < B ^ 16 := Bp_pos 16
  rw [B17]; omega

/-- One product is put. -/
theorem far_step (p : Nat → Bool) (a b i k : Nat) (hi : i < 8) (hk : k < 8) (hp : p (i + k) = true) :
    far p a b i k + lb a i * lb b k % B * B ^ (i + k) < B ^ 17 ∧
    far p a b i k + lb a i * lb b k % B * B ^ (i + k) + lb a i * lb b k / B * B ^ (i + k + 1) = far p a b i (k + 1) := by
  have h1 : far p a b i (k + 1) = far p a b i k + lb a i * lb b k * B ^ (i + k) := by simp [far, inner, hp, Nat.add_assoc]
  have h2 : lb a i * lb b k % B * B ^ (i + k) + lb a i * lb b k / B * B ^ (i + k + 1) = lb a i * lb b k * B ^ (i + k) := by
    have e := Nat.div_add_mod (lb a i * lb b k) B
    generalize lb a i * lb b k / B = q at *
    generalize lb a i * lb b k % B = r at *
    rw [← e, Nat.pow_succ', ← Nat.mul_assoc, Nat.mul_comm q B, Nat.add_mul]; omega
  have h3 := far_lt' p a b i (k + 1) hi (by omega)
  omega
theorem far_skip (p : Nat → Bool) (a b i k : Nat) (hp : ¬ p (i + k) = true) : far p a b i (k + 1) = far p a b i k := by simp [far, inner, hp]
theorem far_next (p : Nat → Bool) (a b i : Nat) : far p a b i 8 = far p a b (i + 1) 0 := by simp [far, outer, inner]

set_option maxHeartbeats 8000000 in
theorem prod_whole (a b : Nat) (g : FuncId) (hg : GoF Tryd.prog g) (cap : Array Value) (p : Nat → Bool) (w0 : World)
    (hp : ∀ w, Keeps [] w0 w → ∀ k : Nat, k ≤ 14 → GivesAt Tryd.prog g ([Value.int .i64 k] ++ cap.toList).toArray (.bool (p k)) w) :
    GivesAt Tryd.prog 70 #[W a, W b, .func (.func g) #[] cap] (.agg (wc 17 (outer p a b 8))) w0 := by
  have hst := St.start [] w0
  go_enter Tryd.func70, Tryd.ntmps70
  go_wp2_with ((first | (refine kb 3 hst rfl rfl ?_; clear hst; intro b3 w hb3 hst) | (refine kb 4 hst rfl rfl ?_; clear hst; intro b4 w hb4 hst) | (refine ka 6 hst tz97 rfl rfl ?_; clear hst; intro b6 w hb6 hst) | (refine ka 7 hst tz97 rfl rfl ?_; clear hst; intro b7 w hb7 hst) | (refine kl hst ta24 rfl ?_) | (refine ki tr24 tc22 rfl ?_) | (refine kl hst ta97 rfl ?_) | (refine kt hst ta97 rfl rfl ?_; clear hst; intro w hst)); try simp only [pz, pn, sz, sc])
  go_loopw [15] (fun x wr => ∃ i : Nat, i ≤ 8 ∧ x = .int .i64 i ∧
    St w0 [] [(b7, .cells (wc 17 (far p a b i 0)) 97), (b6, .cells (wc 17 0) 97), (b4, .cells (wc 8 b) 24), (b3, .cells (wc 8 a) 24)] wr) (fun x _ => 8 - (intOf x).toNat)
  case atStart => exact ⟨0, by omega, rfl, hst⟩
  case round =>
    clear hst
    obtain ⟨i, hi, rfl, hst⟩ := hrel
    by_cases hlt : i < 8
    · have hi0 : (0 : Int) ≤ (i : Int) := by omega
      have hi8 : (i : Int) < 8 := by omega
      have hget := wc_get 8 a i hlt
      go_wp2_with ((first | (refine kb 3 hst rfl rfl ?_; clear hst; intro b3 w hb3 hst) | (refine kb 4 hst rfl rfl ?_; clear hst; intro b4 w hb4 hst) | (refine ka 6 hst tz97 rfl rfl ?_; clear hst; intro b6 w hb6 hst) | (refine ka 7 hst tz97 rfl rfl ?_; clear hst; intro b7 w hb7 hst) | (refine kl hst ta24 rfl ?_) | (refine ki tr24 tc22 rfl ?_) | (refine kl hst ta97 rfl ?_) | (refine kt hst ta97 rfl rfl ?_; clear hst; intro w hst)); try simp only [pz, pn, sz, sc])
      clear hget
      go_loopw [20] (fun y wr => ∃ k : Nat, k ≤ 8 ∧ y = .int .i64 k ∧
        St w0 [] [(b7, .cells (wc 17 (far p a b i k)) 97), (b6, .cells (wc 17 0) 97), (b4, .cells (wc 8 b) 24), (b3, .cells (wc 8 a) 24)] wr) (fun y _ => 8 - (intOf y).toNat)
      case atStart => exact ⟨0, by omega, rfl, hst⟩
      case round =>
        clear hst
        obtain ⟨k, hk, rfl, hst⟩ := hrel
        by_cases hlk : k < 8
        · have hk0 : (0 : Int) ≤ (k : Int) := by omega
          have hk8 : (k : Int) < 8 := by omega
          have hcp : ∀ w, St w0 [] [(b7, .cells (wc 17 (far p a b i k)) 97), (b6, .cells (wc 17 0) 97), (b4, .cells (wc 8 b) 24), (b3, .cells (wc 8 a) 24)] w → GivesAt Tryd.prog g (Value.int .i64 ((i : Int) + (k : Int)) :: cap.toList).toArray (.bool (p (i + k))) w := fun w hst => by
            have := hp w hst.keeps (i + k) (by omega)
            simpa using this
          by_cases hpk : p (i + k) = true
          · rw [hpk] at hcp
            have hm := limb_Mul (lb a i) (lb b k) (lb_lt _ _) (lb_lt _ _)
            obtain ⟨hs1, hs2⟩ := far_step p a b i k hlt hlk hpk
            have hp1 := fun w hw => prod_put b7 (far p a b i k) (i + k) (lb a i * lb b k % B) 97 (far_lt' p a b i k hlt hk) (Nat.mod_lt _ B_pos) (by omega) w hw
            rw [Nat.mod_eq_of_lt hs1] at hp1
            have hp2 := fun w hw => prod_put b7 (far p a b i k + lb a i * lb b k % B * B ^ (i + k)) (i + k + 1) (lb a i * lb b k / B) 97 hs1 (by rw [Nat.div_lt_iff_lt_mul B_pos]; exact Nat.mul_lt_mul'' (lb_lt _ _) (lb_lt _ _)) (by omega) w hw
            rw [hs2, Nat.mod_eq_of_lt (far_lt' p a b i (k + 1) hlt (by omega))] at hp2
            clear hs1 hs2 hpk
            have e1 : ((i + k : Nat) : Int) = (i : Int) + (k : Int) := by omega
            have e2 : ((i + k + 1 : Nat) : Int) = (i : Int) + (k : Int) + 1 := by omega
            rw [e1] at hp1
            rw [e2] at hp2
            clear e1 e2
            go_wp2_with ((first | (refine kg hg hst (hcp) rfl rfl rfl rfl ?_; clear hst; intro w hst) | (refine kf gf85 hst (hm) rfl rfl rfl rfl ?_; clear hst; intro w hst) | (refine km gf86 hst (hp1) rfl rfl rfl rfl ?_; clear hst; intro w hst) | (refine km gf86 hst (hp2) rfl rfl rfl rfl ?_; clear hst; intro w hst) | (refine kb 3 hst rfl rfl ?_; clear hst; intro b3 w hb3 hst) | (refine kb 4 hst rfl rfl ?_; clear hst; intro b4 w hb4 hst) | (refine ka 6 hst tz97 rfl rfl ?_; clear hst; intro b6 w hb6 hst) | (refine ka 7 hst tz97 rfl rfl ?_; clear hst; intro b7 w hb7 hst) | (refine kl hst ta24 rfl ?_) | (refine ki tr24 tc22 rfl ?_) | (refine kl hst ta97 rfl ?_) | (refine kt hst ta97 rfl rfl ?_; clear hst; intro w hst)); try simp only [pz, pn, sz, sc])
            go_roundw
            case rel => exact ⟨k + 1, by omega, by go_num, hst⟩
            case measure => simp [intOf]; omega
          · have hpk' : p (i + k) = false := by simpa using hpk
            rw [hpk'] at hcp
            have hs := far_skip p a b i k hpk
            clear hpk hpk'
            rw [← hs] at hst
            go_wp2_with ((first | (refine kg hg hst (fun w hst => hcp w (by rw [← hs]; exact hst)) rfl rfl rfl rfl ?_; clear hst; intro w hst) | (refine kb 3 hst rfl rfl ?_; clear hst; intro b3 w hb3 hst) | (refine kb 4 hst rfl rfl ?_; clear hst; intro b4 w hb4 hst) | (refine ka 6 hst tz97 rfl rfl ?_; clear hst; intro b6 w hb6 hst) | (refine ka 7 hst tz97 rfl rfl ?_; clear hst; intro b7 w hb7 hst) | (refine kl hst ta24 rfl ?_) | (refine ki tr24 tc22 rfl ?_) | (refine kl hst ta97 rfl ?_) | (refine kt hst ta97 rfl rfl ?_; clear hst; intro w hst)); try simp only [pz, pn, sz, sc])
            go_roundw
            case rel => exact ⟨k + 1, by omega, by go_num, hst⟩
            case measure => simp [intOf]; omega
        · have h8 : k = 8 := by omega
          subst h8
          rw [far_next] at hst
          go_wp2_with ((first | (refine kb 3 hst rfl rfl ?_; clear hst; intro b3 w hb3 hst) | (refine kb 4 hst rfl rfl ?_; clear hst; intro b4 w hb4 hst) | (refine ka 6 hst tz97 rfl rfl ?_; clear hst; intro b6 w hb6 hst) | (refine ka 7 hst tz97 rfl rfl ?_; clear hst; intro b7 w hb7 hst) | (refine kl hst ta24 rfl ?_) | (refine ki tr24 tc22 rfl ?_) | (refine kl hst ta97 rfl ?_) | (refine kt hst ta97 rfl rfl ?_; clear hst; intro w hst)); try simp only [pz, pn, sz, sc])
          go_roundw
          case rel => exact ⟨i + 1, by omega, by go_num, hst⟩
          case measure => simp [intOf]; omega
    · have h8 : i = 8 := by omega
      subst h8
      have hfar : far p a b 8 0 = outer p a b 8 := by simp [far, inner]
      rw [hfar] at hst
      clear hfar
      go_wp2_with ((first | (refine kb 3 hst rfl rfl ?_; clear hst; intro b3 w hb3 hst) | (refine kb 4 hst rfl rfl ?_; clear hst; intro b4 w hb4 hst) | (refine ka 6 hst tz97 rfl rfl ?_; clear hst; intro b6 w hb6 hst) | (refine ka 7 hst tz97 rfl rfl ?_; clear hst; intro b7 w hb7 hst) | (refine kl hst ta24 rfl ?_) | (refine ki tr24 tc22 rfl ?_) | (refine kl hst ta97 rfl ?_) | (refine kt hst ta97 rfl rfl ?_; clear hst; intro w hst)); try simp only [pz, pn, sz, sc])
      refine bp_c rfl rfl (la hst ta97) ⟨?_, hst.keeps⟩
      rfl

end Go.Proofs.YtojjmcghcgidlaaDoor.Rd
