/- What srtroot.Norm, Root answer. -/
import Derived.Test.YtmkeaedpfmblgaaGreatJ11
namespace Go.Proofs.YtmkeaedpfmblgaaGreat.Rd
open Go Go.RowKit
set_option linter.unusedVariables false
set_option linter.unusedSimpArgs false
set_option maxRecDepth 100000

/-- By how much a radicand is shifted up. -/
def nby (n : Nat) : Nat := (256 - bl n) / 2 * 2
theorem norm_up (n : Nat) (h0 : n ≠ 0) (h : n < 2 ^ 256) : 2 ^ 254 ≤ n * 2 ^ nby n ∧ n * 2 ^ nby n < 2 ^ 256 := by
  obtain ⟨h1, h2⟩ := bl_spec n
  have h2 := h2 h0
  have h3 := bl_pos h0
  have h4 : bl n ≤ 256 := bl_le.2 h
  have h5 : bl n + nby n = 256 ∨ bl n + nby n = 255 := by unfold nby; omega
  generalize nby n = b at *
  generalize bl n = k at *
  have hb : 0 < 2 ^ b := Nat.pow_pos (by omega)
  constructor
  · have := Nat.mul_le_mul_right (2 ^ b) h2
    rw [← Nat.pow_add] at this
    exact Nat.le_trans (Nat.pow_le_pow_right (by omega) (by omega)) this
  · have := Nat.mul_lt_mul_of_pos_right h1 hb
    rw [← Nat.pow_add] at this
    exact Nat.lt_of_lt_of_le this (Nat.pow_le_pow_right (by omega) (by omega))

set_option maxHeartbeats 1000000 in
theorem srtroot_Norm (n : Nat) (h0 : n ≠ 0) (h : n < 2 ^ 256) (hn : n < M) : Gives Tryz.prog 145 #[W n] (.tuple #[W (n * 2 ^ nby n), .int .i64 (nby n : Nat), .bool true]) := by
  intro w0
  have hst := St.start [] w0
  have hlen := wide_Len n hn
  have hbl : bl n ≤ 256 := bl_le.2 h
  have hb0 := bl_pos h0
  have hshl := wide_Shl n (nby n : Nat) hn
  rw [clampN_nat _ (by unfold nby; omega), Nat.mod_eq_of_lt (Nat.lt_trans (norm_up n h0 h).2 (small_M (by decide)))] at hshl
  generalize n * 2 ^ nby n = u at *
  have hnb : nby n = (256 - bl n) / 2 * 2 := rfl
  generalize nby n = b at *
  generalize bl n = k at *
  obtain ⟨x, hx⟩ : ∃ x, x = (256 - k) / 2 := ⟨_, rfl⟩
  have Q0 : ((k : Int) == 0) = false := by simp; omega
  have Q1 : ¬ ((256 : Int) < (k : Int)) := by omega
  have Q2 : (256 - (k : Int)) / 2 = (x : Int) := by omega
  have Q3 : (256 - (k : Int)).tdiv 2 = (x : Int) := by rw [Int.tdiv_eq_ediv_of_nonneg (by omega)]; exact Q2
  have Q4 : (x : Int) * 2 = (b : Int) := by omega
  have hx128 : x ≤ 128 := by omega
  clear h h0 hb0 hnb hx
  go_enter Tryz.func145, Tryz.ntmps145
  go_wp2_with ((first | (refine kf gf113 hst (hlen) rfl rfl rfl rfl ?_; clear hst; intro w hst) | (refine kf gf115 hst (hshl) rfl rfl rfl rfl ?_; clear hst; intro w hst) | (refine kb 1 hst rfl rfl ?_; clear hst; intro b1 w hb1 hst) | (refine ka 2 hst tz24 rfl rfl ?_; clear hst; intro b2 w hb2 hst) | (refine kl hst ta24 rfl ?_) | (refine klm hst ta24 rfl ?_) | (refine kt hst ta24 rfl rfl ?_; clear hst; intro w hst) | (refine ktm hst ta24 rfl rfl ?_; clear hst; intro w hst)); try simp only [pz, pn, sz, sc])
  refine bp_ctt rfl rfl (la hst ta24) (by rfl) (by rfl) ⟨?_, hst.keeps⟩
  rfl
theorem srtroot_Norm_zero : Gives Tryz.prog 145 #[W 0] (.tuple #[W 0, .int .i64 0, .bool false]) := by
  intro w0
  have hst := St.start [] w0
  have hlen := wide_Len 0 M_pos
  rw [bl_zero] at hlen
  go_enter Tryz.func145, Tryz.ntmps145
  go_wp2_with ((first | (refine kf gf113 hst (hlen) rfl rfl rfl rfl ?_; clear hst; intro w hst) | (refine kb 1 hst rfl rfl ?_; clear hst; intro b1 w hb1 hst) | (refine ka 2 hst tz24 rfl rfl ?_; clear hst; intro b2 w hb2 hst) | (refine kl hst ta24 rfl ?_) | (refine klm hst ta24 rfl ?_) | (refine kt hst ta24 rfl rfl ?_; clear hst; intro w hst) | (refine ktm hst ta24 rfl rfl ?_; clear hst; intro w hst)); try simp only [pz, pn, sz, sc])
  refine bp_ctt rfl rfl (la hst ta24) (by rfl) (by rfl) ⟨?_, hst.keeps⟩
  rw [W_zero]; rfl
theorem srtroot_Norm_big (n : Nat) (h : ¬ n < 2 ^ 256) (hn : n < M) : Gives Tryz.prog 145 #[W n] (.tuple #[W 0, .int .i64 0, .bool false]) := by
  intro w0
  have hst := St.start [] w0
  have hlen := wide_Len n hn
  have hbl : 256 < bl n := by
    rcases Nat.lt_or_ge 256 (bl n) with h' | h'
    · exact h'
    · exact absurd (bl_le.1 h') h
  generalize bl n = k at *
  have Q0 : ((k : Int) == 0) = false := by simp; omega
  have Q1 : ((256 : Int) < (k : Int)) := by omega
  clear h
  go_enter Tryz.func145, Tryz.ntmps145
  go_wp2_with ((first | (refine kf gf113 hst (hlen) rfl rfl rfl rfl ?_; clear hst; intro w hst) | (refine kb 1 hst rfl rfl ?_; clear hst; intro b1 w hb1 hst) | (refine ka 2 hst tz24 rfl rfl ?_; clear hst; intro b2 w hb2 hst) | (refine kl hst ta24 rfl ?_) | (refine klm hst ta24 rfl ?_) | (refine kt hst ta24 rfl rfl ?_; clear hst; intro w hst) | (refine ktm hst ta24 rfl rfl ?_; clear hst; intro w hst)); try simp only [pz, pn, sz, sc])
  refine bp_ctt rfl rfl (la hst ta24) (by rfl) (by rfl) ⟨?_, hst.keeps⟩
  rw [W_zero]; rfl

theorem IsRoot.down {n x s : Nat} (h : IsRoot (n * 4 ^ x) s) : IsRoot n (s / 2 ^ x) := by
  have e : (4 : Nat) ^ x = 2 ^ x * 2 ^ x := by rw [← Nat.mul_pow]
  have hp : 0 < 2 ^ x := Nat.pow_pos (by omega)
  obtain ⟨h1, h2⟩ := h
  rw [e] at h1 h2
  generalize 2 ^ x = p at *
  have h3 := Nat.div_add_mod s p
  have h4 := Nat.mod_lt s hp
  generalize s / p = t at *
  generalize s % p = r at *
  constructor
  · have g1 : (p * t) * (p * t) ≤ s * s := Nat.mul_le_mul (by omega) (by omega)
    have g2 : (t * t) * (p * p) ≤ n * (p * p) := by
      have : (t * t) * (p * p) = (p * t) * (p * t) := by grind
      omega
    exact Nat.le_of_mul_le_mul_right g2 (Nat.mul_pos hp hp)
  · have g1 : (s + 1) * (s + 1) ≤ (p * (t + 1)) * (p * (t + 1)) := by
      have : s + 1 ≤ p * (t + 1) := by rw [Nat.mul_add, Nat.mul_one]; omega
      exact Nat.mul_le_mul this this
    have g2 : n * (p * p) < ((t + 1) * (t + 1)) * (p * p) := by
      have : ((t + 1) * (t + 1)) * (p * p) = (p * (t + 1)) * (p * (t + 1)) := by grind
      omega
    exact Nat.lt_of_mul_lt_mul_right g2
theorem isqrt_of {n s : Nat} (hn : n < 2 ^ 256) (h : IsRoot n s) : s = isqrt n := h.uniq (isqrt_spec (by rw [four_128]; exact hn)).1
theorem isqrt_up {n s : Nat} (hn : n < 2 ^ 256) (h : IsRoot (n * 2 ^ nby n) s) : s / 2 ^ (nby n / 2) = isqrt n := by
  apply isqrt_of hn
  apply IsRoot.down
  have e : 2 ^ nby n = 4 ^ (nby n / 2) := by
    rw [← four_pow]; congr 1; unfold nby; omega
  rw [← e]; exact h

/-- What comes of the last steps: the root, and the remainder. -/
theorem sqrt_le {n : Nat} (hn : n < 2 ^ 256) : isqrt n * isqrt n ≤ n ∧ isqrt n * isqrt n < M ∧ isqrt n < M := by
  have h := isqrt_spec (n := n) (by rw [four_128]; exact hn)
  refine ⟨h.1.1, Nat.lt_of_le_of_lt h.1.1 (Nat.lt_trans hn (small_M (by decide))), Nat.lt_trans h.2 (small_M (by decide))⟩
theorem sub_sq {n : Nat} (hn : n < 2 ^ 256) : (n + M - isqrt n * isqrt n) % M = n - isqrt n * isqrt n := by
  obtain ⟨h1, h2, h3⟩ := sqrt_le hn
  have : n < M := Nat.lt_trans hn (small_M (by decide))
  rw [show n + M - isqrt n * isqrt n = n - isqrt n * isqrt n + M by omega, Nat.add_mod_right, Nat.mod_eq_of_lt (by omega)]

set_option maxHeartbeats 8000000 in
theorem srtroot_Root (n : Nat) (hn : n < M) : Gives Tryz.prog 137 #[W n] (rootV n) := by
  intro w0
  have hst := St.start [] w0
  unfold rootV
  by_cases h0 : n = 0
  · subst h0
    have hnorm := srtroot_Norm_zero
    have hd : decide (0 = 0) = true := rfl
    have e0 : isqrt 0 = 0 := (isqrt_of (by decide) ⟨by decide, by decide⟩).symm
    rw [if_pos (show 0 < 2 ^ 256 by decide), e0]
    go_enter Tryz.func137, Tryz.ntmps137
    go_wp2_with ((first | (refine kf gf145 hst (hnorm) rfl rfl rfl rfl ?_; clear hst; intro w hst) | (refine kb 1 hst rfl rfl ?_; clear hst; intro b1 w hb1 hst) | (refine ka 2 hst tz24 rfl rfl ?_; clear hst; intro b2 w hb2 hst) | (refine ka 3 hst tz24 rfl rfl ?_; clear hst; intro b3 w hb3 hst) | (refine kl hst ta24 rfl ?_) | (refine klm hst ta24 rfl ?_) | (refine ka 5 hst tz24 rfl rfl ?_; clear hst; intro b5 w hb5 hst) | (refine kt hst ta24 rfl rfl ?_; clear hst; intro w hst) | (refine ktm hst ta24 rfl rfl ?_; clear hst; intro w hst) | (refine ke tr24 tc22 rfl ?_) | (refine ka 8 hst tz210 rfl rfl ?_; clear hst; intro b8 w hb8 hst) | (refine wl_slice1 (o := ⟨some 41, _, _, _, _, _⟩) hst ts133 te22 rfl rfl (by (simp only [eval_lit, eval_k, eval_f, eval_g, List.getD_cons_succ, List.getD_cons_zero]) <;> rfl) (by rfl) ?_; clear hst; intro b41 w hb41 hst) | (refine ka 9 hst tz24 rfl rfl ?_; clear hst; intro b9 w hb9 hst) | (refine ka 11 hst tz24 rfl rfl ?_; clear hst; intro b11 w hb11 hst) | (refine ka 13 hst tz24 rfl rfl ?_; clear hst; intro b13 w hb13 hst)); try simp only [pz, pn, sz, sc])
    refine wp_region_TV 5 [(b1, .cells (wc 8 0) 24)] hst (by kernel_rfl) ?_; clear hst; intro w hst; (try dsimp only [List.length_cons, List.length_nil]); (try simp only [List.length_cons, List.length_nil, Nat.reduceAdd, Array.replicate_succ, Array.replicate_zero, List.push_toArray, List.nil_append, List.cons_append])
    refine rl 0 rfl ?_ (by first | exact ylA ta24 | exact ylM ta24); simp only [pz, pn, sz, sc]
    refine rl 1 rfl ?_ (by first | exact ylA ta24 | exact ylM ta24); simp only [pz, pn, sz, sc]
    refine r1 2 ?_; (first | (refine kt hst ta24 rfl rfl ?_; clear hst; intro w hst) | (refine ktm hst ta24 rfl rfl ?_; clear hst; intro w hst)); (try simp only [pz, pn, sz, sc]); refine re ?_
    refine r1 3 ?_; (first | (refine kt hst ta24 rfl rfl ?_; clear hst; intro w hst) | (refine ktm hst ta24 rfl rfl ?_; clear hst; intro w hst)); (try simp only [pz, pn, sz, sc]); refine re ?_
    refine r0 4 ?_; simp only [pz, pn, sz, sc]
    refine rd_ ?_
    go_wp2_with ((first | (refine kb 1 hst rfl rfl ?_; clear hst; intro b1 w hb1 hst) | (refine ka 2 hst tz24 rfl rfl ?_; clear hst; intro b2 w hb2 hst) | (refine ka 3 hst tz24 rfl rfl ?_; clear hst; intro b3 w hb3 hst) | (refine kl hst ta24 rfl ?_) | (refine klm hst ta24 rfl ?_) | (refine ka 5 hst tz24 rfl rfl ?_; clear hst; intro b5 w hb5 hst) | (refine kt hst ta24 rfl rfl ?_; clear hst; intro w hst) | (refine ktm hst ta24 rfl rfl ?_; clear hst; intro w hst) | (refine ke tr24 tc22 rfl ?_) | (refine ka 8 hst tz210 rfl rfl ?_; clear hst; intro b8 w hb8 hst) | (refine wl_slice1 (o := ⟨some 41, _, _, _, _, _⟩) hst ts133 te22 rfl rfl (by (simp only [eval_lit, eval_k, eval_f, eval_g, List.getD_cons_succ, List.getD_cons_zero]) <;> rfl) (by rfl) ?_; clear hst; intro b41 w hb41 hst) | (refine ka 9 hst tz24 rfl rfl ?_; clear hst; intro b9 w hb9 hst) | (refine ka 11 hst tz24 rfl rfl ?_; clear hst; intro b11 w hb11 hst) | (refine ka 13 hst tz24 rfl rfl ?_; clear hst; intro b13 w hb13 hst)); try simp only [pz, pn, sz, sc])
    refine bp_cct rfl rfl (la hst ta24) (la hst ta24) (by rfl) ⟨?_, hst.keeps⟩
    rfl
  · have hd : decide (n = 0) = false := by simpa using h0
    by_cases h : n < 2 ^ 256
    · rw [if_pos h]
      have hnorm := srtroot_Norm n h0 h hn
      obtain ⟨u1, u2⟩ := norm_up n h0 h
      have hu1 : (2 : Int) ^ 254 ≤ ((n * 2 ^ nby n : Nat) : Int) := by have := Int.ofNat_le.2 u1; rwa [show ((2 ^ 254 : Nat) : Int) = 2 ^ 254 by simp] at this
      have hu2 : ((n * 2 ^ nby n : Nat) : Int) < 2 ^ 256 := by have := Int.ofNat_lt.2 u2; rwa [show ((2 ^ 256 : Nat) : Int) = 2 ^ 256 by simp] at this
      have huM : n * 2 ^ nby n < M := Nat.lt_trans u2 (small_M (by decide))
      have hrun := fun (b8 : Nat) (w : World) (q : w.heap[b8]? = some (.cells (wc 16 0) 210)) => srtroot_run (n * 2 ^ nby n) b8 (wc 16 0) (wc_size _ _) hu1 hu2 huM _ w q
      obtain ⟨l1, l2, l3, l4⟩ := sp_last _ hu1 hu2 _ rfl
      have hsm := sp_small _ hu1 hu2 _ l3 l4
      have hHM : (2 : Int) ^ 256 ≤ (HM : Int) := by
        have : ∀ m, 511 = m → 2 ^ 256 ≤ HM := fun m e => by rw [HM_two m e]; exact Nat.pow_le_pow_right (by omega) (by omega)
        have := Int.ofNat_le.2 (this 511 rfl)
        rwa [show ((2 ^ 256 : Nat) : Int) = 2 ^ 256 by simp] at this
      have hmin := wide_Minus (toW (((n * 2 ^ nby n : Nat) : Int) - sp (n * 2 ^ nby n : Nat) 64 * sp (n * 2 ^ nby n : Nat) 64)) (toW_lt _)
      rw [minus_toW _ (by omega) (by omega)] at hmin
      obtain ⟨pm, hpm⟩ : ∃ pm : Nat, sp (n * 2 ^ nby n : Nat) 64 = (pm : Int) := Int.eq_ofNat_of_zero_le (Int.le_trans (show (0 : Int) ≤ 2 ^ 127 by decide) l3)
      have hpM : pm < M := small_M (by
        have : (pm : Int) ≤ 2 ^ 128 := hpm ▸ l4
        have h4 : ((2 ^ 128 : Nat) : Int) = 2 ^ 128 := by simp
        rw [← h4] at this
        exact Nat.lt_of_le_of_lt (Int.ofNat_le.1 this) (by decide))
      have hp1 : 1 ≤ pm := by
        have : (2 : Int) ^ 127 ≤ (pm : Int) := hpm ▸ l3
        have : (1 : Int) ≤ 2 ^ 127 := by decide
        omega
      rw [hpm] at hrun hmin l1 l2
      obtain ⟨q1, q2, q3⟩ := sqrt_le h
      have hsq := prod_Square (isqrt n) q3
      rw [Nat.mod_eq_of_lt q2] at hsq
      have hsub := wide_Sub n (isqrt n * isqrt n) hn q2
      rw [sub_sq h] at hsub
      have hup := fun s => @isqrt_up n s h
      have hx : (nby n : Int).tdiv 2 = ((nby n / 2 : Nat) : Int) := by rw [Int.tdiv_eq_ediv_of_nonneg (by omega)]; omega
      have hx' : (nby n : Int) / 2 = ((nby n / 2 : Nat) : Int) := by omega
      have hxl : nby n / 2 ≤ 128 := by unfold nby; omega
      unfold farC at hrun
      rw [toW_nat pm hpM] at hrun
      have hob : ∀ b w, w.heap[b]? = some (.cells (wc 1 1) 22 (0, 0)) → GivesAt Tryz.prog 109 #[.slice (some ⟨b, 0, none⟩) 1 1] (W 1) w := fun b w h => by
        have := wide_Of b 0 1 1 1 1 22 (0, 0) (by omega) w h
        rwa [Nat.pow_zero, Nat.div_one, show min 1 8 = 1 from rfl, show 1 % B ^ 1 = 1 from rfl] at this
      have h1' := Lib.hid (wc_1 1 (by decide))
      by_cases hneg : ((n * 2 ^ nby n : Nat) : Int) - (pm : Int) * (pm : Int) < 0
      · obtain ⟨m1, m2⟩ := l2 hneg
        have hs := hup (pm - 1) ⟨by
          have : (((pm - 1) * (pm - 1) : Nat) : Int) ≤ ((n * 2 ^ nby n : Nat) : Int) := by rw [Int.natCast_mul, Int.natCast_sub hp1]; exact m1
          exact Int.ofNat_le.1 this, by
          rw [Nat.sub_add_cancel hp1]
          have : ((n * 2 ^ nby n : Nat) : Int) < ((pm * pm : Nat) : Int) := by rw [Int.natCast_mul]; exact m2
          exact Int.ofNat_lt.1 this⟩
        have hdec := wide_Sub pm 1 hpM (Nat.lt_of_le_of_lt hp1 hpM)
        rw [show (pm + M - 1) % M = pm - 1 by rw [show pm + M - 1 = pm - 1 + M by omega, Nat.add_mod_right, Nat.mod_eq_of_lt (by omega)]] at hdec
        have hshr := wide_Shr (pm - 1) ((nby n / 2 : Nat) : Int) (by omega)
        rw [clampN_nat _ (by omega), hs] at hshr
        rw [show decide (((n * 2 ^ nby n : Nat) : Int) - (pm : Int) * (pm : Int) < 0) = true by simpa using hneg] at hmin
        clear hneg hs hup hu1 hu2 huM u1 u2 l1 l2 l3 l4 hsm hHM hpm hp1 m1 m2 q1 q2 q3 h h0
        generalize toW (((n * 2 ^ nby n : Nat) : Int) - (pm : Int) * (pm : Int)) = lv at *
        generalize n - isqrt n * isqrt n = rv at *
        generalize isqrt n * isqrt n = sv at *
        generalize isqrt n = s at *
        generalize nby n / 2 = x at *
        generalize n * 2 ^ nby n = up at *
        go_enter Tryz.func137, Tryz.ntmps137
        go_wp2_with ((first | (refine kf gf145 hst (hnorm) rfl rfl rfl rfl ?_; clear hst; intro w hst) | (refine kT gf146 hst (fun w hst => hrun b8 w (hst.own _ _ (by simp))) rfl rfl rfl rfl ?_; clear hst; intro w hst) | (refine kf gf143 hst (hmin) rfl rfl rfl rfl ?_; clear hst; intro w hst) | (refine kb 1 hst rfl rfl ?_; clear hst; intro b1 w hb1 hst) | (refine ka 2 hst tz24 rfl rfl ?_; clear hst; intro b2 w hb2 hst) | (refine ka 3 hst tz24 rfl rfl ?_; clear hst; intro b3 w hb3 hst) | (refine kl hst ta24 rfl ?_) | (refine klm hst ta24 rfl ?_) | (refine ka 5 hst tz24 rfl rfl ?_; clear hst; intro b5 w hb5 hst) | (refine kt hst ta24 rfl rfl ?_; clear hst; intro w hst) | (refine ktm hst ta24 rfl rfl ?_; clear hst; intro w hst) | (refine ke tr24 tc22 rfl ?_) | (refine ka 8 hst tz210 rfl rfl ?_; clear hst; intro b8 w hb8 hst) | (refine wl_slice1 (o := ⟨some 41, _, _, _, _, _⟩) hst ts133 te22 rfl rfl (by (simp only [eval_lit, eval_k, eval_f, eval_g, List.getD_cons_succ, List.getD_cons_zero]) <;> rfl) (by rfl) ?_; clear hst; intro b41 w hb41 hst) | (refine ka 9 hst tz24 rfl rfl ?_; clear hst; intro b9 w hb9 hst) | (refine ka 11 hst tz24 rfl rfl ?_; clear hst; intro b11 w hb11 hst) | (refine ka 13 hst tz24 rfl rfl ?_; clear hst; intro b13 w hb13 hst)); try simp only [pz, pn, sz, sc])
        refine wp_region_T 9  hst (by kernel_rfl) ?_; clear hst; intro w hst; (try dsimp only [List.length_cons, List.length_nil]); (try simp only [List.length_cons, List.length_nil, Nat.reduceAdd, Array.replicate_succ, Array.replicate_zero, List.push_toArray, List.nil_append, List.cons_append])
        refine r0 0 ?_; simp only [pz, pn, sz, sc]
        refine rl 1 rfl ?_ (by first | exact ylA ta24 | exact ylM ta24); simp only [pz, pn, sz, sc]
        refine r1 2 ?_; (refine wl_slice1 (o := ⟨some 41, _, _, _, _, _⟩) hst ts133 te22 rfl rfl (by (simp only [eval_lit, eval_k, eval_f, eval_g, List.getD_cons_succ, List.getD_cons_zero]) <;> rfl) (by rfl) ?_; clear hst; intro b41 w hb41 hst); (try simp only [pz, pn, sz, sc]); refine re ?_
        refine r1 3 ?_; (first | (refine kg gf109 hst (fun w hst => hob _ w (by rw [← h1'.out]; exact hst.own _ _ (by simp))) rfl rfl rfl rfl ?_; clear hst; intro w hst) | (refine kf gf116 hst (hdec) rfl rfl rfl rfl ?_; clear hst; intro w hst) | (refine kp ?_)); (try simp only [pz, pn, sz, sc]); refine re ?_
        refine r1 4 ?_; (first | (refine kg gf109 hst (fun w hst => hob _ w (by rw [← h1'.out]; exact hst.own _ _ (by simp))) rfl rfl rfl rfl ?_; clear hst; intro w hst) | (refine kf gf116 hst (hdec) rfl rfl rfl rfl ?_; clear hst; intro w hst) | (refine kp ?_)); (try simp only [pz, pn, sz, sc]); refine re ?_
        refine r0 5 ?_; simp only [pz, pn, sz, sc]
        refine r0 6 ?_; simp only [pz, pn, sz, sc]
        refine r0 7 ?_; simp only [pz, pn, sz, sc]
        refine r0 8 ?_; simp only [pz, pn, sz, sc]
        refine r1 9 ?_; (first | (refine kt hst ta24 rfl rfl ?_; clear hst; intro w hst) | (refine ktm hst ta24 rfl rfl ?_; clear hst; intro w hst)); (try simp only [pz, pn, sz, sc]); refine re ?_
        refine rd_ ?_
        go_wp2_with ((first | (refine kf gf144 hst (hshr) rfl rfl rfl rfl ?_; clear hst; intro w hst) | (refine kf gf148 hst (hsq) rfl rfl rfl rfl ?_; clear hst; intro w hst) | (refine kf gf116 hst (hsub) rfl rfl rfl rfl ?_; clear hst; intro w hst) | (refine kb 1 hst rfl rfl ?_; clear hst; intro b1 w hb1 hst) | (refine ka 2 hst tz24 rfl rfl ?_; clear hst; intro b2 w hb2 hst) | (refine ka 3 hst tz24 rfl rfl ?_; clear hst; intro b3 w hb3 hst) | (refine kl hst ta24 rfl ?_) | (refine klm hst ta24 rfl ?_) | (refine ka 5 hst tz24 rfl rfl ?_; clear hst; intro b5 w hb5 hst) | (refine kt hst ta24 rfl rfl ?_; clear hst; intro w hst) | (refine ktm hst ta24 rfl rfl ?_; clear hst; intro w hst) | (refine ke tr24 tc22 rfl ?_) | (refine ka 8 hst tz210 rfl rfl ?_; clear hst; intro b8 w hb8 hst) | (refine wl_slice1 (o := ⟨some 41, _, _, _, _, _⟩) hst ts133 te22 rfl rfl (by (simp only [eval_lit, eval_k, eval_f, eval_g, List.getD_cons_succ, List.getD_cons_zero]) <;> rfl) (by rfl) ?_; clear hst; intro b41 w hb41 hst) | (refine ka 9 hst tz24 rfl rfl ?_; clear hst; intro b9 w hb9 hst) | (refine ka 11 hst tz24 rfl rfl ?_; clear hst; intro b11 w hb11 hst) | (refine ka 13 hst tz24 rfl rfl ?_; clear hst; intro b13 w hb13 hst)); try simp only [pz, pn, sz, sc])
        refine wp_region_TV 5 [(b13, .cells (wc 8 rv) 24), (b9, .cells (wc 8 s) 24)] hst (by kernel_rfl) ?_; clear hst; intro w hst; (try dsimp only [List.length_cons, List.length_nil]); (try simp only [List.length_cons, List.length_nil, Nat.reduceAdd, Array.replicate_succ, Array.replicate_zero, List.push_toArray, List.nil_append, List.cons_append])
        refine rl 0 rfl ?_ (by first | exact ylA ta24 | exact ylM ta24); simp only [pz, pn, sz, sc]
        refine rl 1 rfl ?_ (by first | exact ylA ta24 | exact ylM ta24); simp only [pz, pn, sz, sc]
        refine r1 2 ?_; (first | (refine kt hst ta24 rfl rfl ?_; clear hst; intro w hst) | (refine ktm hst ta24 rfl rfl ?_; clear hst; intro w hst)); (try simp only [pz, pn, sz, sc]); refine re ?_
        refine r1 3 ?_; (first | (refine kt hst ta24 rfl rfl ?_; clear hst; intro w hst) | (refine ktm hst ta24 rfl rfl ?_; clear hst; intro w hst)); (try simp only [pz, pn, sz, sc]); refine re ?_
        refine r0 4 ?_; simp only [pz, pn, sz, sc]
        refine rd_ ?_
        go_wp2_with ((first | (refine kb 1 hst rfl rfl ?_; clear hst; intro b1 w hb1 hst) | (refine ka 2 hst tz24 rfl rfl ?_; clear hst; intro b2 w hb2 hst) | (refine ka 3 hst tz24 rfl rfl ?_; clear hst; intro b3 w hb3 hst) | (refine kl hst ta24 rfl ?_) | (refine klm hst ta24 rfl ?_) | (refine ka 5 hst tz24 rfl rfl ?_; clear hst; intro b5 w hb5 hst) | (refine kt hst ta24 rfl rfl ?_; clear hst; intro w hst) | (refine ktm hst ta24 rfl rfl ?_; clear hst; intro w hst) | (refine ke tr24 tc22 rfl ?_) | (refine ka 8 hst tz210 rfl rfl ?_; clear hst; intro b8 w hb8 hst) | (refine wl_slice1 (o := ⟨some 41, _, _, _, _, _⟩) hst ts133 te22 rfl rfl (by (simp only [eval_lit, eval_k, eval_f, eval_g, List.getD_cons_succ, List.getD_cons_zero]) <;> rfl) (by rfl) ?_; clear hst; intro b41 w hb41 hst) | (refine ka 9 hst tz24 rfl rfl ?_; clear hst; intro b9 w hb9 hst) | (refine ka 11 hst tz24 rfl rfl ?_; clear hst; intro b11 w hb11 hst) | (refine ka 13 hst tz24 rfl rfl ?_; clear hst; intro b13 w hb13 hst)); try simp only [pz, pn, sz, sc])
        refine bp_cct rfl rfl (la hst ta24) (la hst ta24) (by rfl) ⟨?_, hst.keeps⟩
        rfl
      · obtain ⟨m1, m2⟩ := l1 (by omega)
        have hs := hup pm ⟨by
          have : ((pm * pm : Nat) : Int) ≤ ((n * 2 ^ nby n : Nat) : Int) := by rw [Int.natCast_mul]; exact m1
          exact Int.ofNat_le.1 this, by
          have : ((n * 2 ^ nby n : Nat) : Int) < (((pm + 1) * (pm + 1) : Nat) : Int) := by
            have e : (((pm + 1) * (pm + 1) : Nat) : Int) = ((pm : Int) + 1) * ((pm : Int) + 1) := by simp
            rw [e]; exact m2
          exact Int.ofNat_lt.1 this⟩
        have hshr := wide_Shr pm ((nby n / 2 : Nat) : Int) hpM
        rw [clampN_nat _ (by omega), hs] at hshr
        rw [show decide (((n * 2 ^ nby n : Nat) : Int) - (pm : Int) * (pm : Int) < 0) = false by simpa using hneg] at hmin
        clear hneg hs hup hu1 hu2 huM u1 u2 l1 l2 l3 l4 hsm hHM hpm hp1 m1 m2 q1 q2 q3 h h0 hob h1'
        generalize toW (((n * 2 ^ nby n : Nat) : Int) - (pm : Int) * (pm : Int)) = lv at *
        generalize n - isqrt n * isqrt n = rv at *
        generalize isqrt n * isqrt n = sv at *
        generalize isqrt n = s at *
        generalize nby n / 2 = x at *
        generalize n * 2 ^ nby n = up at *
        go_enter Tryz.func137, Tryz.ntmps137
        go_wp2_with ((first | (refine kf gf145 hst (hnorm) rfl rfl rfl rfl ?_; clear hst; intro w hst) | (refine kT gf146 hst (fun w hst => hrun b8 w (hst.own _ _ (by simp))) rfl rfl rfl rfl ?_; clear hst; intro w hst) | (refine kf gf143 hst (hmin) rfl rfl rfl rfl ?_; clear hst; intro w hst) | (refine kf gf144 hst (hshr) rfl rfl rfl rfl ?_; clear hst; intro w hst) | (refine kf gf148 hst (hsq) rfl rfl rfl rfl ?_; clear hst; intro w hst) | (refine kf gf116 hst (hsub) rfl rfl rfl rfl ?_; clear hst; intro w hst) | (refine kb 1 hst rfl rfl ?_; clear hst; intro b1 w hb1 hst) | (refine ka 2 hst tz24 rfl rfl ?_; clear hst; intro b2 w hb2 hst) | (refine ka 3 hst tz24 rfl rfl ?_; clear hst; intro b3 w hb3 hst) | (refine kl hst ta24 rfl ?_) | (refine klm hst ta24 rfl ?_) | (refine ka 5 hst tz24 rfl rfl ?_; clear hst; intro b5 w hb5 hst) | (refine kt hst ta24 rfl rfl ?_; clear hst; intro w hst) | (refine ktm hst ta24 rfl rfl ?_; clear hst; intro w hst) | (refine ke tr24 tc22 rfl ?_) | (refine ka 8 hst tz210 rfl rfl ?_; clear hst; intro b8 w hb8 hst) | (refine wl_slice1 (o := ⟨some 41, _, _, _, _, _⟩) hst ts133 te22 rfl rfl (by (simp only [eval_lit, eval_k, eval_f, eval_g, List.getD_cons_succ, List.getD_cons_zero]) <;> rfl) (by rfl) ?_; clear hst; intro b41 w hb41 hst) | (refine ka 9 hst tz24 rfl rfl ?_; clear hst; intro b9 w hb9 hst) | (refine ka 11 hst tz24 rfl rfl ?_; clear hst; intro b11 w hb11 hst) | (refine ka 13 hst tz24 rfl rfl ?_; clear hst; intro b13 w hb13 hst)); try simp only [pz, pn, sz, sc])
        refine wp_region_TV 5 [(b13, .cells (wc 8 rv) 24), (b9, .cells (wc 8 s) 24)] hst (by kernel_rfl) ?_; clear hst; intro w hst; (try dsimp only [List.length_cons, List.length_nil]); (try simp only [List.length_cons, List.length_nil, Nat.reduceAdd, Array.replicate_succ, Array.replicate_zero, List.push_toArray, List.nil_append, List.cons_append])
        refine rl 0 rfl ?_ (by first | exact ylA ta24 | exact ylM ta24); simp only [pz, pn, sz, sc]
        refine rl 1 rfl ?_ (by first | exact ylA ta24 | exact ylM ta24); simp only [pz, pn, sz, sc]
        refine r1 2 ?_; (first | (refine kt hst ta24 rfl rfl ?_; clear hst; intro w hst) | (refine ktm hst ta24 rfl rfl ?_; clear hst; intro w hst)); (try simp only [pz, pn, sz, sc]); refine re ?_
        refine r1 3 ?_; (first | (refine kt hst ta24 rfl rfl ?_; clear hst; intro w hst) | (refine ktm hst ta24 rfl rfl ?_; clear hst; intro w hst)); (try simp only [pz, pn, sz, sc]); refine re ?_
        refine r0 4 ?_; simp only [pz, pn, sz, sc]
        refine rd_ ?_
        go_wp2_with ((first | (refine kb 1 hst rfl rfl ?_; clear hst; intro b1 w hb1 hst) | (refine ka 2 hst tz24 rfl rfl ?_; clear hst; intro b2 w hb2 hst) | (refine ka 3 hst tz24 rfl rfl ?_; clear hst; intro b3 w hb3 hst) | (refine kl hst ta24 rfl ?_) | (refine klm hst ta24 rfl ?_) | (refine ka 5 hst tz24 rfl rfl ?_; clear hst; intro b5 w hb5 hst) | (refine kt hst ta24 rfl rfl ?_; clear hst; intro w hst) | (refine ktm hst ta24 rfl rfl ?_; clear hst; intro w hst) | (refine ke tr24 tc22 rfl ?_) | (refine ka 8 hst tz210 rfl rfl ?_; clear hst; intro b8 w hb8 hst) | (refine wl_slice1 (o := ⟨some 41, _, _, _, _, _⟩) hst ts133 te22 rfl rfl (by (simp only [eval_lit, eval_k, eval_f, eval_g, List.getD_cons_succ, List.getD_cons_zero]) <;> rfl) (by rfl) ?_; clear hst; intro b41 w hb41 hst) | (refine ka 9 hst tz24 rfl rfl ?_; clear hst; intro b9 w hb9 hst) | (refine ka 11 hst tz24 rfl rfl ?_; clear hst; intro b11 w hb11 hst) | (refine ka 13 hst tz24 rfl rfl ?_; clear hst; intro b13 w hb13 hst)); try simp only [pz, pn, sz, sc])
        refine bp_cct rfl rfl (la hst ta24) (la hst ta24) (by rfl) ⟨?_, hst.keeps⟩
        rfl
    · rw [if_neg h]
      have hnorm := srtroot_Norm_big n h hn
      clear h h0
      go_enter Tryz.func137, Tryz.ntmps137
      go_wp2_with ((first | (refine kf gf145 hst (hnorm) rfl rfl rfl rfl ?_; clear hst; intro w hst) | (refine kb 1 hst rfl rfl ?_; clear hst; intro b1 w hb1 hst) | (refine ka 2 hst tz24 rfl rfl ?_; clear hst; intro b2 w hb2 hst) | (refine ka 3 hst tz24 rfl rfl ?_; clear hst; intro b3 w hb3 hst) | (refine kl hst ta24 rfl ?_) | (refine klm hst ta24 rfl ?_) | (refine ka 5 hst tz24 rfl rfl ?_; clear hst; intro b5 w hb5 hst) | (refine kt hst ta24 rfl rfl ?_; clear hst; intro w hst) | (refine ktm hst ta24 rfl rfl ?_; clear hst; intro w hst) | (refine ke tr24 tc22 rfl ?_) | (refine ka 8 hst tz210 rfl rfl ?_; clear hst; intro b8 w hb8 hst) | (refine wl_slice1 (o := ⟨some 41, _, _, _, _, _⟩) hst ts133 te22 rfl rfl (by (simp only [eval_lit, eval_k, eval_f, eval_g, List.getD_cons_succ, List.getD_cons_zero]) <;> rfl) (by rfl) ?_; clear hst; intro b41 w hb41 hst) | (refine ka 9 hst tz24 rfl rfl ?_; clear hst; intro b9 w hb9 hst) | (refine ka 11 hst tz24 rfl rfl ?_; clear hst; intro b11 w hb11 hst) | (refine ka 13 hst tz24 rfl rfl ?_; clear hst; intro b13 w hb13 hst)); try simp only [pz, pn, sz, sc])
      refine bp_cct rfl rfl (la hst ta24) (la hst ta24) (by rfl) ⟨?_, hst.keeps⟩
      rw [W_zero]; rfl

end Go.Proofs.YtmkeaedpfmblgaaGreat.Rd
