/- What bits.Div64 answers by 10 and by 16. -/
import Derived.Test.YtojjmcghcgidlaaDoorRdK0
namespace Go.Proofs.YtojjmcghcgidlaaDoor.Rd
open Go Go.RowKit
set_option linter.unusedVariables false
set_option linter.unusedSimpArgs false
set_option maxRecDepth 100000

theorem bits_LZ (x : Nat) (hx : x < B) : Gives Tryd.prog 69 #[.int .u64 x] (.int .i64 (64 - (bl x : Int))) := by
  have h := Gives.of_same fun w => Tryd.bits_LeadingZeros64 (x : Int) w (by omega) (by rw [B_val] at hx; omega)
  rw [Int.toNat_natCast, lib_bitLen x hx] at h
  exact h

/-- What Knuth's division comes to where the divisor's lower half is 0. -/
theorem knuth_10 (hi lo u v v1 v0 q1 un q0 : Nat) (h1 : hi < 10) (h2 : lo < 18446744073709551616) (hu : u = hi * 1152921504606846976 + lo / 16) (hv : v = lo * 1152921504606846976 % 18446744073709551616) (hv1 : v1 = v / 4294967296) (hv0 : v0 = v % 4294967296)
  (hq1 : q1 = u / 2684354560) (hun : un = u % 2684354560 * 4294967296 + v1) (hq0 : q0 = un / 2684354560) : q1 * 4294967296 + q0 = (hi * 18446744073709551616 + lo) / 10 ∧ q1 < 4294967296 ∧ q0 < 4294967296 ∧ (un % 2684354560 * 4294967296 + v0) / 1152921504606846976 = (hi * 18446744073709551616 + lo) % 10 ∧ un < 18446744073709551616 ∧ u < 18446744073709551616 := by
  refine ⟨?_, ?_, ?_, ?_, ?_, ?_⟩ <;> omega

set_option maxHeartbeats 16000000 in
theorem div64_10 (hi lo : Nat) (h1 : hi < 10) (h2 : lo < B) :
    Gives Tryd.prog 53 #[.int .u64 hi, .int .u64 lo, .int .u64 10] (.tuple #[.int .u64 ((hi * B + lo) / 10 : Nat), .int .u64 ((hi * B + lo) % 10 : Nat)]) := by
  intro w0
  have hst := St.start [] w0
  have hlz := bits_LZ 10 (by decide)
  have e1 : (64 - (bl 10 : Int)) = 60 := by decide
  rw [e1] at hlz
  clear e1
  rw [B_val] at h2 ⊢
  by_cases h0 : hi = 0
  · subst h0
    have e2 : IntKind.u64.wrap ((lo : Int) / 10) = ((lo / 10 : Nat) : Int) := by
      rw [show (lo : Int) / 10 = ((lo / 10 : Nat) : Int) by omega, u64_wrap, Nat.mod_eq_of_lt (by rw [B_val]; omega)]
    have e3 : (lo : Int).tmod 10 = ((lo % 10 : Nat) : Int) := by rw [Int.tmod_eq_emod_of_nonneg (by omega)]; omega
    go_enter Tryd.func53, Tryd.ntmps53
    go_wp2_with ((first | (refine kc hst tc60 rfl ?_)); try simp only [pz, pn, sz, sc])
    refine wp_region_T 8  hst (by kernel_rfl) ?_; clear hst; intro w hst; (try dsimp only [List.length_cons, List.length_nil]); (try simp only [List.length_cons, List.length_nil, Nat.reduceAdd, Array.replicate_succ, Array.replicate_zero, List.push_toArray, List.nil_append, List.cons_append])
    refine r0 0 ?_; simp only [pz, pn, sz, sc]
    refine r0 1 ?_; simp only [pz, pn, sz, sc]
    refine r0 2 ?_; simp only [pz, pn, sz, sc]
    refine r0 3 ?_; simp only [pz, pn, sz, sc]
    refine r0 4 ?_; simp only [pz, pn, sz, sc]
    refine r0 5 ?_; simp only [pz, pn, sz, sc]
    refine r0 6 ?_; simp only [pz, pn, sz, sc]
    refine r0 7 ?_; simp only [pz, pn, sz, sc]
    refine rd_ ?_
    go_wp2_with ((first | (refine kc hst tc60 rfl ?_)); try simp only [pz, pn, sz, sc])
    refine bp_tt rfl rfl (by rfl) (by rfl) ⟨?_, hst.keeps⟩
    simp
  · have h0' : ((hi : Int) == 0) = false := by simpa using h0
    have h3 : (hi : Int) < 10 := by omega
    obtain ⟨u, hu⟩ : ∃ u, u = hi * 1152921504606846976 + lo / 16 := ⟨_, rfl⟩
    obtain ⟨v, hv⟩ : ∃ v, v = lo * 1152921504606846976 % 18446744073709551616 := ⟨_, rfl⟩
    obtain ⟨v1, hv1⟩ : ∃ v1, v1 = v / 4294967296 := ⟨_, rfl⟩
    obtain ⟨v0, hv0⟩ : ∃ v0, v0 = v % 4294967296 := ⟨_, rfl⟩
    obtain ⟨q1, hq1⟩ : ∃ q1, q1 = u / 2684354560 := ⟨_, rfl⟩
    obtain ⟨rh, hrh⟩ : ∃ rh, rh = u % 2684354560 := ⟨_, rfl⟩
    obtain ⟨un, hun⟩ : ∃ un, un = u % 2684354560 * 4294967296 + v1 := ⟨_, rfl⟩
    obtain ⟨q0, hq0⟩ : ∃ q0, q0 = un / 2684354560 := ⟨_, rfl⟩
    obtain ⟨rl, hrl⟩ : ∃ rl, rl = un % 2684354560 := ⟨_, rfl⟩
    obtain ⟨r1, r2, r3, r4, r5, r6⟩ := knuth_10 hi lo u v v1 v0 q1 un q0 h1 h2 hu hv hv1 hv0 hq1 hun hq0
    obtain ⟨H, hH⟩ : ∃ H, H = hi * 1152921504606846976 := ⟨_, rfl⟩
    obtain ⟨P, hP⟩ : ∃ P, P = q1 * 2684354560 := ⟨_, rfl⟩
    obtain ⟨U, hU⟩ : ∃ U, U = u * 4294967296 % 18446744073709551616 := ⟨_, rfl⟩
    obtain ⟨S, hS⟩ : ∃ S, S = (U + v1) % 18446744073709551616 := ⟨_, rfl⟩
    obtain ⟨T, hT⟩ : ∃ T, T = q1 * 11529215046068469760 % 18446744073709551616 := ⟨_, rfl⟩
    obtain ⟨Q, hQ⟩ : ∃ Q, Q = q0 * 2684354560 := ⟨_, rfl⟩
    obtain ⟨X, hX⟩ : ∃ X, X = rl * 4294967296 + v0 := ⟨_, rfl⟩
    obtain ⟨V1, hV1⟩ : ∃ V1, V1 = rh * 4294967296 := ⟨_, rfl⟩
    obtain ⟨V2, hV2⟩ : ∃ V2, V2 = rl * 4294967296 := ⟨_, rfl⟩
    obtain ⟨G1, hG1⟩ : ∃ G1, G1 = q1 * 4294967296 := ⟨_, rfl⟩
    obtain ⟨G2, hG2⟩ : ∃ G2, G2 = q1 * 4294967296 + q0 := ⟨_, rfl⟩
    obtain ⟨U2, hU2⟩ : ∃ U2, U2 = un * 4294967296 % 18446744073709551616 := ⟨_, rfl⟩
    obtain ⟨S2, hS2⟩ : ∃ S2, S2 = (U2 + v0) % 18446744073709551616 := ⟨_, rfl⟩
    obtain ⟨T2, hT2⟩ : ∃ T2, T2 = q0 * 11529215046068469760 % 18446744073709551616 := ⟨_, rfl⟩
    have f1 : bits .and .u64 11529215046068469760 4294967295 = 0 := by
      have := and_low 11529215046068469760 (by rw [B_val]; omega)
      simpa using this
    have f0 : IntKind.u64.wrap ((hi : Int) * 1152921504606846976) = (H : Int) := u64_wrap' _ H _ (by omega) (by rw [B_val]; omega)
    have f2 : bits .or .u64 (H : Int) ((lo : Int) / 16) = (u : Int) := by
      have := or_low hi (lo / 16) 60 (by rw [B_val]; omega) (by omega) (by rw [B_val]; omega)
      rw [hu]
      rw [← this]
      rw [hH]; congr 1
    have f3 : IntKind.u64.wrap ((lo : Int) * 1152921504606846976) = (v : Int) := u64_wrap' _ (lo * 1152921504606846976) _ (by omega) (by rw [B_val]; omega)
    have f4 : (v : Int) / 4294967296 = (v1 : Int) := by omega
    have f5 : bits .and .u64 (v : Int) 4294967295 = (v0 : Int) := by rw [and_low v (by rw [B_val]; omega), hv0]
    have f6' : IntKind.u64.wrap ((u : Int) / 2684354560) = (q1 : Int) := u64_wrap' _ q1 _ (by omega) (by rw [B_val]; omega)
    have f6 : IntKind.u64.wrap ((u : Int).tdiv 2684354560) = (q1 : Int) := by
      rw [Int.tdiv_eq_ediv_of_nonneg (by omega)]; exact f6'
    have f9 : IntKind.u64.wrap ((q1 : Int) * 2684354560) = (P : Int) := u64_wrap' _ P _ (by omega) (by rw [B_val]; omega)
    have f10 : IntKind.u64.wrap ((u : Int) - (P : Int)) = (rh : Int) := wrap_sub_nat _ _ _ (by omega) (by rw [B_val]; omega)
    have f11 : IntKind.u64.wrap (4294967296 * (rh : Int)) = (V1 : Int) := u64_wrap' _ (rh * 4294967296) _ (by omega) (by rw [B_val]; omega)
    have f12 : IntKind.u64.wrap ((V1 : Int) + (v1 : Int)) = (un : Int) := u64_wrap' _ un _ (by omega) (by rw [B_val]; omega)
    have f13 : decide ((un : Int) < 0) = false := by simp
    have f14 : IntKind.u64.wrap ((u : Int) * 4294967296) = (U : Int) := u64_wrap' _ (u * 4294967296) _ (by omega) (by rw [B_val]; omega)
    have f15 : IntKind.u64.wrap ((U : Int) + (v1 : Int)) = (S : Int) := u64_wrap' _ (U + v1) _ (by omega) (by rw [B_val]; omega)
    have f16 : IntKind.u64.wrap ((q1 : Int) * 11529215046068469760) = (T : Int) := u64_wrap' _ (q1 * 11529215046068469760) _ (by omega) (by rw [B_val]; omega)
    have f17 : IntKind.u64.wrap ((S : Int) - (T : Int)) = (un : Int) := wrap_sub_mod _ _ _ (by rw [B_val]; omega) (by rw [B_val]; omega)
    have f18' : IntKind.u64.wrap ((un : Int) / 2684354560) = (q0 : Int) := u64_wrap' _ q0 _ (by omega) (by rw [B_val]; omega)
    have f18 : IntKind.u64.wrap ((un : Int).tdiv 2684354560) = (q0 : Int) := by
      rw [Int.tdiv_eq_ediv_of_nonneg (by omega)]; exact f18'
    have f19 : IntKind.u64.wrap ((q0 : Int) * 2684354560) = (Q : Int) := u64_wrap' _ Q _ (by omega) (by rw [B_val]; omega)
    have f20 : IntKind.u64.wrap ((un : Int) - (Q : Int)) = (rl : Int) := wrap_sub_nat _ _ _ (by omega) (by rw [B_val]; omega)
    have f21 : IntKind.u64.wrap (4294967296 * (rl : Int)) = (V2 : Int) := u64_wrap' _ (rl * 4294967296) _ (by omega) (by rw [B_val]; omega)
    have f22 : IntKind.u64.wrap ((V2 : Int) + (v0 : Int)) = (X : Int) := u64_wrap' _ X _ (by omega) (by rw [B_val]; omega)
    have f23 : decide ((X : Int) < 0) = false := by simp
    have f24 : IntKind.u64.wrap ((q1 : Int) * 4294967296) = (G1 : Int) := u64_wrap' _ G1 _ (by omega) (by rw [B_val]; omega)
    have f25 : IntKind.u64.wrap ((G1 : Int) + (q0 : Int)) = (G2 : Int) := u64_wrap' _ G2 _ (by omega) (by rw [B_val]; omega)
    have f26 : IntKind.u64.wrap ((un : Int) * 4294967296) = (U2 : Int) := u64_wrap' _ (un * 4294967296) _ (by omega) (by rw [B_val]; omega)
    have f27 : IntKind.u64.wrap ((U2 : Int) + (v0 : Int)) = (S2 : Int) := u64_wrap' _ (U2 + v0) _ (by omega) (by rw [B_val]; omega)
    have f28 : IntKind.u64.wrap ((q0 : Int) * 11529215046068469760) = (T2 : Int) := u64_wrap' _ (q0 * 11529215046068469760) _ (by omega) (by rw [B_val]; omega)
    have f29 : IntKind.u64.wrap ((S2 : Int) - (T2 : Int)) = (X : Int) := wrap_sub_mod _ _ _ (by rw [B_val]; omega) (by rw [B_val]; omega)
    have f30 : (X : Int) / 1152921504606846976 = (((hi * 18446744073709551616 + lo) % 10 : Nat) : Int) := by omega
    have f31 : (G2 : Int) = (((hi * 18446744073709551616 + lo) / 10 : Nat) : Int) := by omega
    have f7 : decide ((4294967296 : Int) ≤ (q1 : Int)) = false := by simp; omega
    have f8 : decide ((4294967296 : Int) ≤ (q0 : Int)) = false := by simp; omega
    have f7' : ¬ ((4294967296 : Int) ≤ (q1 : Int)) := by omega
    have f8' : ¬ ((4294967296 : Int) ≤ (q0 : Int)) := by omega
    have f13' : ¬ ((un : Int) < 0) := by omega
    have f23' : ¬ ((X : Int) < 0) := by omega
    have h3' : decide ((10 : Int) ≤ (hi : Int)) = false := by simp; omega
    have R4 := Lib.hid f30
    have R1 := Lib.hid f31
    clear hu hv hv1 hv0 hq1 hun hq0 h1 h2 hH r1 r2 r3 r4 h3 r5 r6 hrh hrl hP hU hS hT hQ hX hV1 hV2 hG1 hG2 hU2 hS2 hT2 f30 f31
    go_enter Tryd.func53, Tryd.ntmps53
    go_wp2_with ((first | (refine kf gf69 hst (hlz) rfl rfl rfl rfl ?_; clear hst; intro w hst) | (refine kc hst tc60 rfl ?_)); try simp only [pz, pn, sz, sc])
    refine wp_loop_once ?_
    go_wp2
    refine wp_loop_once ?_
    go_wp2
    refine bp_tt rfl rfl (by rfl) (by rfl) ⟨?_, hst.keeps⟩
    rw [R1.out, R4.out]; rfl

/-- What Knuth's division comes to where the divisor's lower half is 0 (16). -/
theorem knuth_16 (hi lo u v v1 v0 q1 un q0 : Nat) (h1 : hi < 16) (h2 : lo < 18446744073709551616) (hu : u = hi * 576460752303423488 + lo / 32) (hv : v = lo * 576460752303423488 % 18446744073709551616) (hv1 : v1 = v / 4294967296) (hv0 : v0 = v % 4294967296)
  (hq1 : q1 = u / 2147483648) (hun : un = u % 2147483648 * 4294967296 + v1) (hq0 : q0 = un / 2147483648) : q1 * 4294967296 + q0 = (hi * 18446744073709551616 + lo) / 16 ∧ q1 < 4294967296 ∧ q0 < 4294967296 ∧ (un % 2147483648 * 4294967296 + v0) / 576460752303423488 = (hi * 18446744073709551616 + lo) % 16 ∧ un < 18446744073709551616 ∧ u < 18446744073709551616 := by
  refine ⟨?_, ?_, ?_, ?_, ?_, ?_⟩ <;> omega

set_option maxHeartbeats 16000000 in
theorem div64_16 (hi lo : Nat) (h1 : hi < 16) (h2 : lo < B) :
    Gives Tryd.prog 53 #[.int .u64 hi, .int .u64 lo, .int .u64 16] (.tuple #[.int .u64 ((hi * B + lo) / 16 : Nat), .int .u64 ((hi * B + lo) % 16 : Nat)]) := by
  intro w0
  have hst := St.start [] w0
  have hlz := bits_LZ 16 (by decide)
  have e1 : (64 - (bl 16 : Int)) = 59 := by decide
  rw [e1] at hlz
  clear e1
  rw [B_val] at h2 ⊢
  by_cases h0 : hi = 0
  · subst h0
    have e2 : IntKind.u64.wrap ((lo : Int) / 16) = ((lo / 16 : Nat) : Int) := by
      rw [show (lo : Int) / 16 = ((lo / 16 : Nat) : Int) by omega, u64_wrap, Nat.mod_eq_of_lt (by rw [B_val]; omega)]
    have e3 : (lo : Int).tmod 16 = ((lo % 16 : Nat) : Int) := by rw [Int.tmod_eq_emod_of_nonneg (by omega)]; omega
    go_enter Tryd.func53, Tryd.ntmps53
    go_wp2_with ((first | (refine kc hst tc60 rfl ?_)); try simp only [pz, pn, sz, sc])
    refine wp_region_T 8  hst (by kernel_rfl) ?_; clear hst; intro w hst; (try dsimp only [List.length_cons, List.length_nil]); (try simp only [List.length_cons, List.length_nil, Nat.reduceAdd, Array.replicate_succ, Array.replicate_zero, List.push_toArray, List.nil_append, List.cons_append])
    refine r0 0 ?_; simp only [pz, pn, sz, sc]
    refine r0 1 ?_; simp only [pz, pn, sz, sc]
    refine r0 2 ?_; simp only [pz, pn, sz, sc]
    refine r0 3 ?_; simp only [pz, pn, sz, sc]
    refine r0 4 ?_; simp only [pz, pn, sz, sc]
    refine r0 5 ?_; simp only [pz, pn, sz, sc]
    refine r0 6 ?_; simp only [pz, pn, sz, sc]
    refine r0 7 ?_; simp only [pz, pn, sz, sc]
    refine rd_ ?_
    go_wp2_with ((first | (refine kc hst tc60 rfl ?_)); try simp only [pz, pn, sz, sc])
    refine bp_tt rfl rfl (by rfl) (by rfl) ⟨?_, hst.keeps⟩
    simp
  · have h0' : ((hi : Int) == 0) = false := by simpa using h0
    have h3 : (hi : Int) < 16 := by omega
    obtain ⟨u, hu⟩ : ∃ u, u = hi * 576460752303423488 + lo / 32 := ⟨_, rfl⟩
    obtain ⟨v, hv⟩ : ∃ v, v = lo * 576460752303423488 % 18446744073709551616 := ⟨_, rfl⟩
    obtain ⟨v1, hv1⟩ : ∃ v1, v1 = v / 4294967296 := ⟨_, rfl⟩
    obtain ⟨v0, hv0⟩ : ∃ v0, v0 = v % 4294967296 := ⟨_, rfl⟩
    obtain ⟨q1, hq1⟩ : ∃ q1, q1 = u / 2147483648 := ⟨_, rfl⟩
    obtain ⟨rh, hrh⟩ : ∃ rh, rh = u % 2147483648 := ⟨_, rfl⟩
    obtain ⟨un, hun⟩ : ∃ un, un = u % 2147483648 * 4294967296 + v1 := ⟨_, rfl⟩
    obtain ⟨q0, hq0⟩ : ∃ q0, q0 = un / 2147483648 := ⟨_, rfl⟩
    obtain ⟨rl, hrl⟩ : ∃ rl, rl = un % 2147483648 := ⟨_, rfl⟩
    obtain ⟨r1, r2, r3, r4, r5, r6⟩ := knuth_16 hi lo u v v1 v0 q1 un q0 h1 h2 hu hv hv1 hv0 hq1 hun hq0
    obtain ⟨H, hH⟩ : ∃ H, H = hi * 576460752303423488 := ⟨_, rfl⟩
    obtain ⟨P, hP⟩ : ∃ P, P = q1 * 2147483648 := ⟨_, rfl⟩
    obtain ⟨U, hU⟩ : ∃ U, U = u * 4294967296 % 18446744073709551616 := ⟨_, rfl⟩
    obtain ⟨S, hS⟩ : ∃ S, S = (U + v1) % 18446744073709551616 := ⟨_, rfl⟩
    obtain ⟨T, hT⟩ : ∃ T, T = q1 * 9223372036854775808 % 18446744073709551616 := ⟨_, rfl⟩
    obtain ⟨Q, hQ⟩ : ∃ Q, Q = q0 * 2147483648 := ⟨_, rfl⟩
    obtain ⟨X, hX⟩ : ∃ X, X = rl * 4294967296 + v0 := ⟨_, rfl⟩
    obtain ⟨V1, hV1⟩ : ∃ V1, V1 = rh * 4294967296 := ⟨_, rfl⟩
    obtain ⟨V2, hV2⟩ : ∃ V2, V2 = rl * 4294967296 := ⟨_, rfl⟩
    obtain ⟨G1, hG1⟩ : ∃ G1, G1 = q1 * 4294967296 := ⟨_, rfl⟩
    obtain ⟨G2, hG2⟩ : ∃ G2, G2 = q1 * 4294967296 + q0 := ⟨_, rfl⟩
    obtain ⟨U2, hU2⟩ : ∃ U2, U2 = un * 4294967296 % 18446744073709551616 := ⟨_, rfl⟩
    obtain ⟨S2, hS2⟩ : ∃ S2, S2 = (U2 + v0) % 18446744073709551616 := ⟨_, rfl⟩
    obtain ⟨T2, hT2⟩ : ∃ T2, T2 = q0 * 9223372036854775808 % 18446744073709551616 := ⟨_, rfl⟩
    have f1 : bits .and .u64 9223372036854775808 4294967295 = 0 := by
      have := and_low 9223372036854775808 (by rw [B_val]; omega)
      simpa using this
    have f0 : IntKind.u64.wrap ((hi : Int) * 576460752303423488) = (H : Int) := u64_wrap' _ H _ (by omega) (by rw [B_val]; omega)
    have f2 : bits .or .u64 (H : Int) ((lo : Int) / 32) = (u : Int) := by
      have := or_low hi (lo / 32) 59 (by rw [B_val]; omega) (by omega) (by rw [B_val]; omega)
      rw [hu]
      rw [← this]
      rw [hH]; congr 1
    have f3 : IntKind.u64.wrap ((lo : Int) * 576460752303423488) = (v : Int) := u64_wrap' _ (lo * 576460752303423488) _ (by omega) (by rw [B_val]; omega)
    have f4 : (v : Int) / 4294967296 = (v1 : Int) := by omega
    have f5 : bits .and .u64 (v : Int) 4294967295 = (v0 : Int) := by rw [and_low v (by rw [B_val]; omega), hv0]
    have f6' : IntKind.u64.wrap ((u : Int) / 2147483648) = (q1 : Int) := u64_wrap' _ q1 _ (by omega) (by rw [B_val]; omega)
    have f6 : IntKind.u64.wrap ((u : Int).tdiv 2147483648) = (q1 : Int) := by
      rw [Int.tdiv_eq_ediv_of_nonneg (by omega)]; exact f6'
    have f9 : IntKind.u64.wrap ((q1 : Int) * 2147483648) = (P : Int) := u64_wrap' _ P _ (by omega) (by rw [B_val]; omega)
    have f10 : IntKind.u64.wrap ((u : Int) - (P : Int)) = (rh : Int) := wrap_sub_nat _ _ _ (by omega) (by rw [B_val]; omega)
    have f11 : IntKind.u64.wrap (4294967296 * (rh : Int)) = (V1 : Int) := u64_wrap' _ (rh * 4294967296) _ (by omega) (by rw [B_val]; omega)
    have f12 : IntKind.u64.wrap ((V1 : Int) + (v1 : Int)) = (un : Int) := u64_wrap' _ un _ (by omega) (by rw [B_val]; omega)
    have f13 : decide ((un : Int) < 0) = false := by simp
    have f14 : IntKind.u64.wrap ((u : Int) * 4294967296) = (U : Int) := u64_wrap' _ (u * 4294967296) _ (by omega) (by rw [B_val]; omega)
    have f15 : IntKind.u64.wrap ((U : Int) + (v1 : Int)) = (S : Int) := u64_wrap' _ (U + v1) _ (by omega) (by rw [B_val]; omega)
    have f16 : IntKind.u64.wrap ((q1 : Int) * 9223372036854775808) = (T : Int) := u64_wrap' _ (q1 * 9223372036854775808) _ (by omega) (by rw [B_val]; omega)
    have f17 : IntKind.u64.wrap ((S : Int) - (T : Int)) = (un : Int) := wrap_sub_mod _ _ _ (by rw [B_val]; omega) (by rw [B_val]; omega)
    have f18' : IntKind.u64.wrap ((un : Int) / 2147483648) = (q0 : Int) := u64_wrap' _ q0 _ (by omega) (by rw [B_val]; omega)
    have f18 : IntKind.u64.wrap ((un : Int).tdiv 2147483648) = (q0 : Int) := by
      rw [Int.tdiv_eq_ediv_of_nonneg (by omega)]; exact f18'
    have f19 : IntKind.u64.wrap ((q0 : Int) * 2147483648) = (Q : Int) := u64_wrap' _ Q _ (by omega) (by rw [B_val]; omega)
    have f20 : IntKind.u64.wrap ((un : Int) - (Q : Int)) = (rl : Int) := wrap_sub_nat _ _ _ (by omega) (by rw [B_val]; omega)
    have f21 : IntKind.u64.wrap (4294967296 * (rl : Int)) = (V2 : Int) := u64_wrap' _ (rl * 4294967296) _ (by omega) (by rw [B_val]; omega)
    have f22 : IntKind.u64.wrap ((V2 : Int) + (v0 : Int)) = (X : Int) := u64_wrap' _ X _ (by omega) (by rw [B_val]; omega)
    have f23 : decide ((X : Int) < 0) = false := by simp
    have f24 : IntKind.u64.wrap ((q1 : Int) * 4294967296) = (G1 : Int) := u64_wrap' _ G1 _ (by omega) (by rw [B_val]; omega)
    have f25 : IntKind.u64.wrap ((G1 : Int) + (q0 : Int)) = (G2 : Int) := u64_wrap' _ G2 _ (by omega) (by rw [B_val]; omega)
    have f26 : IntKind.u64.wrap ((un : Int) * 4294967296) = (U2 : Int) := u64_wrap' _ (un * 4294967296) _ (by omega) (by rw [B_val]; omega)
    have f27 : IntKind.u64.wrap ((U2 : Int) + (v0 : Int)) = (S2 : Int) := u64_wrap' _ (U2 + v0) _ (by omega) (by rw [B_val]; omega)
    have f28 : IntKind.u64.wrap ((q0 : Int) * 9223372036854775808) = (T2 : Int) := u64_wrap' _ (q0 * 9223372036854775808) _ (by omega) (by rw [B_val]; omega)
    have f29 : IntKind.u64.wrap ((S2 : Int) - (T2 : Int)) = (X : Int) := wrap_sub_mod _ _ _ (by rw [B_val]; omega) (by rw [B_val]; omega)
    have f30 : (X : Int) / 576460752303423488 = (((hi * 18446744073709551616 + lo) % 16 : Nat) : Int) := by omega
    have f31 : (G2 : Int) = (((hi * 18446744073709551616 + lo) / 16 : Nat) : Int) := by omega
    have f7 : decide ((4294967296 : Int) ≤ (q1 : Int)) = false := by simp; omega
    have f8 : decide ((4294967296 : Int) ≤ (q0 : Int)) = false := by simp; omega
    have f7' : ¬ ((4294967296 : Int) ≤ (q1 : Int)) := by omega
    have f8' : ¬ ((4294967296 : Int) ≤ (q0 : Int)) := by omega
    have f13' : ¬ ((un : Int) < 0) := by omega
    have f23' : ¬ ((X : Int) < 0) := by omega
    have h3' : decide ((16 : Int) ≤ (hi : Int)) = false := by simp; omega
    have R4 := Lib.hid f30
    have R1 := Lib.hid f31
    clear hu hv hv1 hv0 hq1 hun hq0 h1 h2 hH r1 r2 r3 r4 h3 r5 r6 hrh hrl hP hU hS hT hQ hX hV1 hV2 hG1 hG2 hU2 hS2 hT2 f30 f31
    go_enter Tryd.func53, Tryd.ntmps53
    go_wp2_with ((first | (refine kf gf69 hst (hlz) rfl rfl rfl rfl ?_; clear hst; intro w hst) | (refine kc hst tc60 rfl ?_)); try simp only [pz, pn, sz, sc])
    refine wp_loop_once ?_
    go_wp2
    refine wp_loop_once ?_
    go_wp2
    refine bp_tt rfl rfl (by rfl) (by rfl) ⟨?_, hst.keeps⟩
    rw [R1.out, R4.out]; rfl

end Go.Proofs.YtojjmcghcgidlaaDoor.Rd
