/- What the reference's Class answers. -/
import Derived.Test.YtefpoconpeggpaaGreatDoorK26
import Derived.Test.YtefpoconpeggpaaGreatDoorK07
import Derived.Test.YtefpoconpeggpaaGreatDoorK10
import Derived.Test.YtefpoconpeggpaaGreatDoorK08
namespace Go.Proofs.YtefpoconpeggpaaGreatDoor.Rd
open Go Go.RowKit
set_option linter.unusedVariables false
set_option linter.unusedSimpArgs false
set_option maxRecDepth 100000

theorem field_step (m i k : Nat) : m / 2 ^ i % 2 ^ (k + 1) = 2 * (m / 2 ^ (i + 1) % 2 ^ k) + (if m.testBit i then 1 else 0) := by
  have e1 : m / 2 ^ (i + 1) = m / 2 ^ i / 2 := by rw [Nat.pow_succ, Nat.div_div_eq_div_mul]
  have e2 : (if m.testBit i then 1 else 0) = m / 2 ^ i % 2 := by
    rw [Nat.testBit_eq_decide_div_mod_eq]
    by_cases h : m / 2 ^ i % 2 = 1
    · simp [h]
    · have : m / 2 ^ i % 2 = 0 := by omega
      simp [this]
  rw [e1, e2]
  generalize m / 2 ^ i = x
  rw [Nat.pow_succ, Nat.mul_comm (2 ^ k) 2, Nat.mod_mul]
  omega

set_option maxHeartbeats 2000000 in
theorem ref06_Field (f : Nat) (h1 : 1 ≤ f) (h4 : f ≤ 4) (m : Nat) (hm : m < M2) : Gives Tryz.prog 34 #[.int .i64 f, Wd m] (.int .i64 (wField f m : Nat)) := by
  intro w0
  have hst := St.start [] w0
  have hb := ref05_Bits f h1 h4
  have hp := ref05_Prec f h1 h4
  have hbit := Lib.hid (fun i (hi : i < 128) => ref05_Bit m i hm hi)
  have hP := fP_in f
  have hB := fB_in f
  have hK := fBPK f
  have hstep := Lib.hid (field_step m)
  obtain ⟨res, hres⟩ : ∃ res, res = wField f m := ⟨_, rfl⟩
  rw [← hres]
  obtain ⟨K, hKd⟩ : ∃ K, K = fK f := ⟨_, rfl⟩
  have hres' := Lib.hid (show res = m / 2 ^ (fP f - 1) % 2 ^ K by rw [hres, hKd]; rfl)
  have hKl := (fK_in f).2
  rw [← hKd] at hK hKl
  clear hres hm h1 h4 hKd
  generalize fB f = bb at *
  generalize fP f = p at *
  have hW1 : IntKind.i64.wrap ((p : Int) - 1) = (p : Int) - 1 := by rw [IntKind.wrap_i64]; omega
  go_enter Tryz.func34, Tryz.ntmps34
  go_wp2_with ((first | (refine kf gf66 hst (hb) rfl rfl rfl rfl ?_; clear hst; intro w hst) | (refine kb 3 hst rfl rfl ?_; clear hst; intro b3 w hb3 hst)); try simp only [pz, pn, sz, sc])
  go_loopw [5, 6] (fun vn vi wr => ∃ j k : Nat, j + k = bb - 1 ∧ p - 1 ≤ j ∧ vi = .int .i64 ((j : Int) - 1) ∧ vn = .int .i64 (m / 2 ^ j % 2 ^ k : Nat) ∧ St w0 [] [(b3, .cells (wdc m) 24)] wr) (fun _ vi _ => (intOf vi + 1).toNat)
  case atStart => exact ⟨bb - 1, 0, by omega, by omega, by congr 1; omega, by rw [Nat.pow_zero, Nat.mod_one]; rfl, hst⟩
  case round =>
    clear hst
    obtain ⟨j, k, hjk, hj, rfl, rfl, hst⟩ := hrel
    have hk : k ≤ K := by omega
    have hl : m / 2 ^ j % 2 ^ k < 2 ^ 15 := Nat.lt_of_lt_of_le (Nat.mod_lt _ (Nat.pow_pos (by omega))) (Nat.pow_le_pow_right (by omega) (by omega))
    obtain ⟨n, hn⟩ : ∃ n, n = m / 2 ^ j % 2 ^ k := ⟨_, rfl⟩
    rw [← hn] at hl
    have hn' := Lib.hid hn
    rw [← hn]
    clear hn
    by_cases hlt : p ≤ j
    · obtain ⟨i, rfl⟩ : ∃ i, j = i + 1 := ⟨j - 1, by omega⟩
      obtain ⟨iv, hiv⟩ : ∃ iv : Int, iv = ((i + 1 : Nat) : Int) - 1 := ⟨_, rfl⟩
      have hbn := hbit.out i (by omega)
      rw [show (i : Int) = iv by omega] at hbn
      rw [← hiv]
      have i1 : (p : Int) - 1 ≤ iv := by omega
      have i2 : iv ≤ 130 := by omega
      have i3 : 0 ≤ iv := by omega
      have hiv' := Lib.hid hiv
      have hs := hstep.out i k
      rw [← hn'.out] at hs
      have hs' := Lib.hid hs
      clear hiv hs
      cases ht : m.testBit i
      · rw [ht] at hbn
        have ht' := Lib.hid ht
        clear ht
        go_wp2_with ((first | (refine kf gf25 hst (hp) rfl rfl rfl rfl ?_; clear hst; intro w hst) | (refine kf gf67 hst (hbn) rfl rfl rfl rfl ?_; clear hst; intro w hst) | (refine kl hst ta24 rfl ?_)); try simp only [pz, pn, sz, sc])
        refine ⟨⟨i, k + 1, by omega, by omega, by congr 1; have := hiv'.out; omega, ?_, hst⟩, ?_⟩
        · rw [hs'.out, ht'.out, if_neg (by simp)]; go_num
        · have := hiv'.out; (simp [intOf]; try omega)
      · rw [ht] at hbn
        have ht' := Lib.hid ht
        clear ht
        go_wp2_with ((first | (refine kf gf25 hst (hp) rfl rfl rfl rfl ?_; clear hst; intro w hst) | (refine kf gf67 hst (hbn) rfl rfl rfl rfl ?_; clear hst; intro w hst) | (refine kl hst ta24 rfl ?_)); try simp only [pz, pn, sz, sc])
        refine ⟨⟨i, k + 1, by omega, by omega, by congr 1; have := hiv'.out; omega, ?_, hst⟩, ?_⟩
        · rw [hs'.out, ht'.out, if_pos rfl]; go_num
        · have := hiv'.out; (simp [intOf]; try omega)
    · obtain rfl : j = p - 1 := by omega
      obtain rfl : k = K := by omega
      have i1 : ¬ (p : Int) - 1 ≤ ((p - 1 : Nat) : Int) - 1 := by omega
      have e : n = res := by rw [hn'.out, hres'.out]
      subst e
      go_wp2_with ((first | (refine kf gf25 hst (hp) rfl rfl rfl rfl ?_; clear hst; intro w hst)); try simp only [pz, pn, sz, sc])
      refine bp_t rfl rfl (by rfl) ⟨?_, hst.keeps⟩
      rfl

end Go.Proofs.YtefpoconpeggpaaGreatDoor.Rd

namespace Go.Proofs.YtefpoconpeggpaaGreatDoor.Rd
open Go Go.RowKit
set_option linter.unusedVariables false
set_option linter.unusedSimpArgs false
set_option maxRecDepth 100000

theorem low_step (m i : Nat) : m % 2 ^ (i + 1) = m % 2 ^ i + (if m.testBit i then 2 ^ i else 0) := by
  have h := Nat.mod_mul (a := 2 ^ i) (b := 2) (x := m)
  rw [← Nat.pow_succ] at h
  rw [h, Nat.testBit_eq_decide_div_mod_eq]
  by_cases h' : m / 2 ^ i % 2 = 1
  · simp [h']
  · have : m / 2 ^ i % 2 = 0 := by omega
    simp [this]
theorem set_bit (n i : Nat) (hn : n < 2 ^ i) (hi : i < 512) : (wc 8 n).setIfInBounds (i / 64) (.int .u64 ((lb n (i / 64) : Int) + (2 ^ (i % 64) : Nat))) = wc 8 (n + 2 ^ i) ∧ lb n (i / 64) + 2 ^ (i % 64) < B := by
  have hlb : lb n (i / 64) < 2 ^ (i % 64) := by
    unfold lb
    refine Nat.lt_of_le_of_lt (Nat.mod_le _ _) ?_
    rw [Nat.div_lt_iff_lt_mul (Bp_pos _), show B = 2 ^ 64 from rfl, ← Nat.pow_mul, ← Nat.pow_add, show i % 64 + 64 * (i / 64) = i by omega]
    exact hn
  have h2 : 2 ^ (i % 64) ≤ 2 ^ 63 := Nat.pow_le_pow_right (by omega) (by omega)
  have hB : lb n (i / 64) + 2 ^ (i % 64) < B := by rw [B_val]; omega
  refine ⟨?_, hB⟩
  rw [← Int.natCast_add, wc_setL 8 n (i / 64) _ hB]
  congr 1
  have h := setL_eq n (i / 64) (lb n (i / 64) + 2 ^ (i % 64))
  rw [Nat.add_mul] at h
  have e : 2 ^ (i % 64) * B ^ (i / 64) = 2 ^ i := by rw [show B = 2 ^ 64 from rfl, ← Nat.pow_mul, ← Nat.pow_add, show i % 64 + 64 * (i / 64) = i by omega]
  rw [e] at h
  omega

set_option maxHeartbeats 4000000 in
theorem ref06_Fraction (f : Nat) (h1 : 1 ≤ f) (h4 : f ≤ 4) (m : Nat) (hm : m < M2) : Gives Tryz.prog 36 #[.int .i64 f, Wd m] (W (wFrac f m)) := by
  intro w0
  have hst := St.start [] w0
  have hp := ref05_Prec f h1 h4
  have hbit := Lib.hid (fun i (hi : i < 128) => ref05_Bit m i hm hi)
  have hP := fP_in f
  have hstep := Lib.hid (low_step m)
  obtain ⟨res, hres⟩ : ∃ res, res = wFrac f m := ⟨_, rfl⟩
  rw [← hres]
  have hres' := Lib.hid (show res = m % 2 ^ (fP f - 1) from hres)
  clear hres hm h1 h4
  generalize fP f = p at *
  go_enter Tryz.func36, Tryz.ntmps36
  go_wp2_with ((first | (refine kb 3 hst rfl rfl ?_; clear hst; intro b3 w hb3 hst) | (refine ka 4 hst tz44 rfl rfl ?_; clear hst; intro b4 w hb4 hst) | (refine ka 5 hst tz44 rfl rfl ?_; clear hst; intro b5 w hb5 hst)); try simp only [pz, pn, sz, sc])
  go_loopw [6] (fun vi wr => ∃ i : Nat, i + 1 ≤ p ∧ vi = .int .i64 i ∧ St w0 [] [(b5, .cells (wc 8 (m % 2 ^ i)) 44), (b4, .cells (wc 8 0) 44), (b3, .cells (wdc m) 24)] wr) (fun vi _ => p - (intOf vi).toNat)
  case atStart => exact ⟨0, by omega, rfl, by rw [Nat.pow_zero, Nat.mod_one]; exact hst⟩
  case round =>
    clear hst
    obtain ⟨i, hi, rfl, hst⟩ := hrel
    have hlow : m % 2 ^ i < 2 ^ i := Nat.mod_lt _ (Nat.pow_pos (by omega))
    obtain ⟨n, hn⟩ : ∃ n, n = m % 2 ^ i := ⟨_, rfl⟩
    rw [← hn] at hlow hst
    have hn' := Lib.hid hn
    by_cases hlt : i + 1 < p
    · have i1 : (i : Int) < (p : Int) - 1 := by omega
      have hbn := hbit.out i (by omega)
      have hs := hstep.out i
      rw [← hn'.out] at hs
      have hs' := Lib.hid hs
      obtain ⟨sb1, sb2⟩ := set_bit n i hlow (by omega)
      obtain ⟨q, hq⟩ : ∃ q, q = i / 64 := ⟨_, rfl⟩
      obtain ⟨r, hr⟩ : ∃ r, r = i % 64 := ⟨_, rfl⟩
      rw [← hq, ← hr] at sb1 sb2
      have Q1 : (i : Int) / 64 = (q : Int) := by omega
      have Q2 : (i : Int) % 64 = (r : Int) := by omega
      have Q5 : (i : Int).tdiv 64 = (q : Int) := by rw [Int.tdiv_eq_ediv_of_nonneg (by omega)]; exact Q1
      have Q6 : (i : Int).tmod 64 = (r : Int) := by rw [Int.tmod_eq_emod_of_nonneg (by omega)]; exact Q2
      have q0 : (0 : Int) ≤ (q : Int) := by omega
      have q8 : (q : Int) < 8 := by omega
      have q8' : q < 8 := by omega
      have rr0 : (0 : Int) ≤ (r : Int) := by omega
      have rr6 : (r : Int) < 64 := by omega
      have hil : (i : Int) < 128 := by omega
      have P1 : IntKind.u64.wrap ((2 : Int) ^ r) = ((2 ^ r : Nat) : Int) := by
        have a : 2 ^ r ≤ 2 ^ 63 := Nat.pow_le_pow_right (by omega) (by omega)
        rw [show (2 : Int) ^ r = ((2 ^ r : Nat) : Int) by simp, u64_wrap, Nat.mod_eq_of_lt (by rw [B_val]; omega)]
      have P2 : IntKind.u64.wrap ((lb n q : Int) + ((2 ^ r : Nat) : Int)) = (lb n q : Int) + ((2 ^ r : Nat) : Int) := by rw [← Int.natCast_add, u64_wrap, Nat.mod_eq_of_lt sb2]
      have P3 : IntKind.i64.wrap (q : Int) = (q : Int) := by rw [IntKind.wrap_i64]; omega
      have P4 : IntKind.i64.wrap (r : Int) = (r : Int) := by rw [IntKind.wrap_i64]; omega
      have hP5 := Lib.hid (show IntKind.u64.wrap ((lb n q : Int) + (2 : Int) ^ r) = (lb n q : Int) + ((2 ^ r : Nat) : Int) by rw [show (2 : Int) ^ r = ((2 ^ r : Nat) : Int) by simp]; exact P2)
      have hset := Lib.hid sb1
      clear hn hs hq hr sb1 sb2 hlow
      cases ht : m.testBit i
      · rw [ht] at hbn
        have ht' := Lib.hid ht
        clear ht
        go_wp2_with ((first | (refine kf gf25 hst (hp) rfl rfl rfl rfl ?_; clear hst; intro w hst) | (refine kf gf67 hst (hbn) rfl rfl rfl rfl ?_; clear hst; intro w hst) | (refine kl hst ta24 rfl ?_)); try simp only [pz, pn, sz, sc])
        refine ⟨⟨i + 1, by omega, by go_num, by rw [hs'.out, ht'.out, if_neg (by simp), Nat.add_zero]; exact hst⟩, ?_⟩
        (simp [intOf]; try omega)
      · rw [ht] at hbn
        have ht' := Lib.hid ht
        clear ht
        have hfin := Lib.hid (show m % 2 ^ (i + 1) = n + 2 ^ i by rw [hs'.out, ht'.out, if_pos rfl])
        generalize 2 ^ i = pw at *
        go_wp2_with ((first | (refine kf gf25 hst (hp) rfl rfl rfl rfl ?_; clear hst; intro w hst) | (refine kf gf67 hst (hbn) rfl rfl rfl rfl ?_; clear hst; intro w hst) | (refine kl hst ta24 rfl ?_)); try simp only [pz, pn, sz, sc])
        refine wp_region_T 11  hst (by kernel_rfl) ?_; clear hst; intro w hst; (try simp only [List.length_cons, List.length_nil, Nat.reduceAdd, Array.replicate_succ, Array.replicate_zero, List.push_toArray, List.nil_append, List.cons_append])
        refine r0 0 ?_; simp only [pz, pn, sz, sc, Q1, Q2, Q5, Q6, P1, P2, P3, P4]
        refine r0 1 ?_; simp only [pz, pn, sz, sc, Q1, Q2, Q5, Q6, P1, P2, P3, P4]
        refine r0 2 ?_; simp only [pz, pn, sz, sc, Q1, Q2, Q5, Q6, P1, P2, P3, P4]
        refine r0 3 ?_; simp only [pz, pn, sz, sc, Q1, Q2, Q5, Q6, P1, P2, P3, P4]
        refine r0 4 ?_; simp only [pz, pn, sz, sc, Q1, Q2, Q5, Q6, P1, P2, P3, P4]
        refine r0 6 ?_; simp only [pz, pn, sz, sc, Q1, Q2, Q5, Q6, P1, P2, P3, P4]
        refine r0 7 ?_; simp only [pz, pn, sz, sc, Q1, Q2, Q5, Q6, P1, P2, P3, P4]
        refine r0 8 ?_; simp only [pz, pn, sz, sc, Q1, Q2, Q5, Q6, P1, P2, P3, P4]
        refine rl 5 rfl ?_ (ylC tc22); simp only [pz, pn, sz, sc, Q1, Q2, Q5, Q6, P1, P2, P3, P4]
        refine r0 9 ?_; simp only [pz, pn, sz, sc, Q1, Q2, Q5, Q6, P1, P2, P3, P4]
        refine r0 10 ?_; simp only [pz, pn, sz, sc, Q1, Q2, Q5, Q6, P1, P2, P3, P4]
        refine r1 11 ?_; (refine ks hst tc22 rfl rfl ?_; clear hst; intro w hst; (try rw [hP5.out, hset.out] at hst)); (try simp only [pz, pn, sz, sc, Q1, Q2, Q5, Q6, P1, P2, P3, P4]); refine re ?_
        refine rd_ ?_
        all_goals
          go_wp2_with fail
          refine ⟨⟨i + 1, by omega, by go_num, by rw [hfin.out]; exact hst⟩, ?_⟩
          (simp [intOf]; try omega)
    · obtain rfl : i = p - 1 := by omega
      have i1 : ¬ ((p - 1 : Nat) : Int) < (p : Int) - 1 := by omega
      have e : n = res := by rw [hn'.out, hres'.out]
      subst e
      clear hn hlow
      go_wp2_with ((first | (refine kf gf25 hst (hp) rfl rfl rfl rfl ?_; clear hst; intro w hst) | (refine kl hst ta44 rfl ?_) | (refine kt hst ta44 rfl rfl ?_; clear hst; intro w hst)); try simp only [pz, pn, sz, sc])
      refine bp_c rfl rfl (la hst ta44) ⟨?_, hst.keeps⟩
      rfl

set_option maxHeartbeats 1000000 in
theorem ref06_Neg (f : Nat) (h1 : 1 ≤ f) (h4 : f ≤ 4) (m : Nat) (hm : m < M2) (hf : m < 2 ^ fB f) : Gives Tryz.prog 35 #[.int .i64 f, Wd m] (.bool (wNeg f m)) := by
  intro w0
  have hst := St.start [] w0
  have hfit := ref05_Fits f h1 h4 m hm
  rw [decide_eq_true hf] at hfit
  have hb := ref05_Bits f h1 h4
  have hB := fB_in f
  have hbit := ref05_Bit m (fB f - 1) hm (by omega)
  rw [wNeg_bit f m hf, show ((fB f - 1 : Nat) : Int) = (fB f : Int) - 1 by omega] at hbit
  have hW1 : IntKind.i64.wrap ((fB f : Int) - 1) = (fB f : Int) - 1 := by rw [IntKind.wrap_i64]; omega
  clear hf hm h1 h4
  generalize wNeg f m = ng at *
  generalize fB f = bb at *
  go_enter Tryz.func35, Tryz.ntmps35
  go_wp2_with ((first | (refine kb 3 hst rfl rfl ?_; clear hst; intro b3 w hb3 hst)); try simp only [pz, pn, sz, sc])
  refine wp_region_T 11  hst (by kernel_rfl) ?_; clear hst; intro w hst; (try simp only [List.length_cons, List.length_nil, Nat.reduceAdd, Array.replicate_succ, Array.replicate_zero, List.push_toArray, List.nil_append, List.cons_append])
  refine r0 0 ?_; simp only [pz, pn, sz, sc, hW1]
  refine rl 1 rfl ?_ (by first | exact ylA ta24 | exact ylM ta24); simp only [pz, pn, sz, sc, hW1]
  refine r1 2 ?_; (refine kf gf68 hst (hfit) rfl rfl rfl rfl ?_; clear hst; intro w hst); (try simp only [pz, pn, sz, sc, hW1]); refine re ?_
  refine r0 3 ?_; simp only [pz, pn, sz, sc, hW1]
  refine r0 5 ?_; simp only [pz, pn, sz, sc, hW1]
  refine rl 4 rfl ?_ (by first | exact ylA ta24 | exact ylM ta24); simp only [pz, pn, sz, sc, hW1]
  refine r1 6 ?_; (try refine wl_guard (by rfl) ?_); (refine kf gf66 hst (hb) rfl rfl rfl rfl ?_; clear hst; intro w hst); (try simp only [pz, pn, sz, sc, hW1]); refine re ?_
  refine r0 7 ?_; simp only [pz, pn, sz, sc, hW1]
  refine r1 8 ?_; (try refine wl_guard (by rfl) ?_); (refine kf gf67 hst (hbit) rfl rfl rfl rfl ?_; clear hst; intro w hst); (try simp only [pz, pn, sz, sc, hW1]); refine re ?_
  refine r0 9 ?_; simp only [pz, pn, sz, sc, hW1]
  refine r0 10 ?_; simp only [pz, pn, sz, sc, hW1]
  refine rd_ ?_
  all_goals
    go_wp2_with fail
    refine bp_t rfl rfl (by rfl) ⟨?_, hst.keeps⟩
    rfl

end Go.Proofs.YtefpoconpeggpaaGreatDoor.Rd

namespace Go.Proofs.YtefpoconpeggpaaGreatDoor.Rd
open Go Go.RowKit
set_option linter.unusedVariables false
set_option linter.unusedSimpArgs false
set_option maxRecDepth 100000

theorem ref06_Class_no (f : Nat) (h1 : 1 ≤ f) (h4 : f ≤ 4) (m : Nat) (hm : m < M2) (hf : ¬ m < 2 ^ fB f) : Gives Tryz.prog 64 #[.int .i64 f, Wd m] (.int .i64 0) := by
  intro w0
  have hst := St.start [] w0
  have hfit := ref05_Fits f h1 h4 m hm
  rw [decide_eq_false hf] at hfit
  clear hf hm h1 h4
  go_enter Tryz.func64, Tryz.ntmps64
  go_wp2_with ((first | (refine kf gf68 hst (hfit) rfl rfl rfl rfl ?_; clear hst; intro w hst) | (refine kb 3 hst rfl rfl ?_; clear hst; intro b3 w hb3 hst) | (refine kl hst ta24 rfl ?_)); try simp only [pz, pn, sz, sc])
  refine bp_t rfl rfl (by rfl) ⟨?_, hst.keeps⟩
  rfl

theorem ref06_Class_non (f : Int) (h : f < 1 ∨ 4 < f) (m : Nat) : Gives Tryz.prog 64 #[.int .i64 f, Wd m] (.int .i64 0) := by
  intro w0
  have hst := St.start [] w0
  have hfit := ref05_Fits_no f h m
  clear h
  go_enter Tryz.func64, Tryz.ntmps64
  go_wp2_with ((first | (refine kf gf68 hst (hfit) rfl rfl rfl rfl ?_; clear hst; intro w hst) | (refine kb 3 hst rfl rfl ?_; clear hst; intro b3 w hb3 hst) | (refine kl hst ta24 rfl ?_)); try simp only [pz, pn, sz, sc])
  refine bp_t rfl rfl (by rfl) ⟨?_, hst.keeps⟩
  rfl

set_option maxHeartbeats 4000000 in
theorem ref06_Class (f : Nat) (h1 : 1 ≤ f) (h4 : f ≤ 4) (m : Nat) (hm : m < M2) (hf : m < 2 ^ fB f) : Gives Tryz.prog 64 #[.int .i64 f, Wd m] (.int .i64 (clsN f m : Nat)) := by
  intro w0
  have hst := St.start [] w0
  have hfit := ref05_Fits f h1 h4 m hm
  rw [decide_eq_true hf] at hfit
  have hfd := ref06_Field f h1 h4 m hm
  have hfr := ref06_Fraction f h1 h4 m hm
  have hem := ref05_EMax f h1 h4
  have hpr := ref05_Prec f h1 h4
  have hP := fP_in f
  have hE := fE_in f
  have hbit := ref05_Bit m (fP f - 2) hm (by omega)
  have hbe : m.testBit (fP f - 2) = (wFrac f m).testBit (fP f - 2) := by
    unfold wFrac
    rw [Nat.testBit_mod_two_pow, decide_eq_true (by omega), Bool.true_and]
  rw [hbe, show ((fP f - 2 : Nat) : Int) = (fP f : Int) - 2 by omega] at hbit
  have hfrM : wFrac f m < M := Nat.lt_trans (wFrac_lt f m) (small_M2 (fP f - 1) (by omega))
  have hM := M_pos
  have hfld : wField f m < 65536 := Nat.lt_of_lt_of_le (Nat.mod_lt _ (Nat.pow_pos (by omega))) (Nat.le_trans (Nat.pow_le_pow_right (by omega) (fK_in f).2) (by decide))
  unfold clsN
  clear hbe hf hm h1 h4
  generalize wFrac f m = fr at *
  generalize wField f m = fld at *
  generalize fP f = p at *
  generalize fE f = E at *
  have hW1 : IntKind.i64.wrap ((p : Int) - 2) = (p : Int) - 2 := by rw [IntKind.wrap_i64]; omega
  have hW3 : IntKind.i64.wrap (2 * (E : Int)) = 2 * (E : Int) := by rw [IntKind.wrap_i64]; omega
  have hW4 : IntKind.i64.wrap (2 * (E : Int) + 1) = 2 * (E : Int) + 1 := by rw [IntKind.wrap_i64]; omega
  by_cases hA : fld = 2 * E + 1
  · rw [if_pos hA]
    have qA : (fld : Int) = 2 * (E : Int) + 1 := by omega
    have QA : ((fld : Int) == 2 * (E : Int) + 1) = true := by simpa using qA
    clear hA qA
    by_cases h0 : fr = 0
    · rw [if_pos h0]
      have Q0 : decide (fr = 0) = true := by simpa using h0
      clear h0
      go_enter Tryz.func64, Tryz.ntmps64
      go_wp2_with ((first | (refine kf gf68 hst (hfit) rfl rfl rfl rfl ?_; clear hst; intro w hst) | (refine kf gf34 hst (hfd) rfl rfl rfl rfl ?_; clear hst; intro w hst) | (refine kf gf36 hst (hfr) rfl rfl rfl rfl ?_; clear hst; intro w hst) | (refine kf gf51 hst (hem) rfl rfl rfl rfl ?_; clear hst; intro w hst) | (refine kb 3 hst rfl rfl ?_; clear hst; intro b3 w hb3 hst) | (refine kl hst ta24 rfl ?_) | (refine ke tr44 tc22 rfl ?_)); try simp only [pz, pn, sz, sc])
      refine bp_t rfl rfl (by rfl) ⟨?_, hst.keeps⟩
      rfl
    · rw [if_neg h0]
      have Q0 : decide (fr = 0) = false := by simpa using h0
      clear h0
      cases hb : fr.testBit (p - 2)
      · rw [hb] at hbit
        clear hb
        go_enter Tryz.func64, Tryz.ntmps64
        go_wp2_with ((first | (refine kf gf68 hst (hfit) rfl rfl rfl rfl ?_; clear hst; intro w hst) | (refine kf gf34 hst (hfd) rfl rfl rfl rfl ?_; clear hst; intro w hst) | (refine kf gf36 hst (hfr) rfl rfl rfl rfl ?_; clear hst; intro w hst) | (refine kf gf51 hst (hem) rfl rfl rfl rfl ?_; clear hst; intro w hst) | (refine kb 3 hst rfl rfl ?_; clear hst; intro b3 w hb3 hst) | (refine kl hst ta24 rfl ?_) | (refine ke tr44 tc22 rfl ?_)); try simp only [pz, pn, sz, sc])
        refine wp_region_T 14  hst (by kernel_rfl) ?_; clear hst; intro w hst; (try simp only [List.length_cons, List.length_nil, Nat.reduceAdd, Array.replicate_succ, Array.replicate_zero, List.push_toArray, List.nil_append, List.cons_append])
        refine r0 0 ?_; simp only [pz, pn, sz, sc, hW1, hW3, hW4, QA]
        refine r0 1 ?_; simp only [pz, pn, sz, sc, hW1, hW3, hW4, QA]
        refine r1 2 ?_; (refine kf gf51 hst (hem) rfl rfl rfl rfl ?_; clear hst; intro w hst); (try simp only [pz, pn, sz, sc, hW1, hW3, hW4, QA]); refine re ?_
        refine r0 3 ?_; simp only [pz, pn, sz, sc, hW1, hW3, hW4, QA]
        refine r0 4 ?_; simp only [pz, pn, sz, sc, hW1, hW3, hW4, QA]
        refine r0 5 ?_; simp only [pz, pn, sz, sc, hW1, hW3, hW4, QA]
        refine r0 6 ?_; simp only [pz, pn, sz, sc, hW1, hW3, hW4, QA]
        refine r0 8 ?_; simp only [pz, pn, sz, sc, hW1, hW3, hW4, QA]
        refine rl 7 rfl ?_ (by first | exact ylA ta24 | exact ylM ta24); simp only [pz, pn, sz, sc, hW1, hW3, hW4, QA]
        refine r1 9 ?_; (try refine wl_guard (by rfl) ?_); (refine kf gf25 hst (hpr) rfl rfl rfl rfl ?_; clear hst; intro w hst); (try simp only [pz, pn, sz, sc, hW1, hW3, hW4, QA]); refine re ?_
        refine r0 10 ?_; simp only [pz, pn, sz, sc, hW1, hW3, hW4, QA]
        refine r1 11 ?_; (try refine wl_guard (by rfl) ?_); (refine kf gf67 hst (hbit) rfl rfl rfl rfl ?_; clear hst; intro w hst); (try simp only [pz, pn, sz, sc, hW1, hW3, hW4, QA]); refine re ?_
        refine r0 12 ?_; simp only [pz, pn, sz, sc, hW1, hW3, hW4, QA]
        refine r0 13 ?_; simp only [pz, pn, sz, sc, hW1, hW3, hW4, QA]
        refine rd_ ?_
        all_goals
          go_wp2_with ((first | (refine kf gf51 hst (hem) rfl rfl rfl rfl ?_; clear hst; intro w hst)); try simp only [pz, pn, sz, sc])
          refine bp_t rfl rfl (by rfl) ⟨?_, hst.keeps⟩
          rfl
      · rw [hb] at hbit
        clear hb
        go_enter Tryz.func64, Tryz.ntmps64
        go_wp2_with ((first | (refine kf gf68 hst (hfit) rfl rfl rfl rfl ?_; clear hst; intro w hst) | (refine kf gf34 hst (hfd) rfl rfl rfl rfl ?_; clear hst; intro w hst) | (refine kf gf36 hst (hfr) rfl rfl rfl rfl ?_; clear hst; intro w hst) | (refine kf gf51 hst (hem) rfl rfl rfl rfl ?_; clear hst; intro w hst) | (refine kb 3 hst rfl rfl ?_; clear hst; intro b3 w hb3 hst) | (refine kl hst ta24 rfl ?_) | (refine ke tr44 tc22 rfl ?_)); try simp only [pz, pn, sz, sc])
        refine wp_region_T 14  hst (by kernel_rfl) ?_; clear hst; intro w hst; (try simp only [List.length_cons, List.length_nil, Nat.reduceAdd, Array.replicate_succ, Array.replicate_zero, List.push_toArray, List.nil_append, List.cons_append])
        refine r0 0 ?_; simp only [pz, pn, sz, sc, hW1, hW3, hW4, QA]
        refine r0 1 ?_; simp only [pz, pn, sz, sc, hW1, hW3, hW4, QA]
        refine r1 2 ?_; (refine kf gf51 hst (hem) rfl rfl rfl rfl ?_; clear hst; intro w hst); (try simp only [pz, pn, sz, sc, hW1, hW3, hW4, QA]); refine re ?_
        refine r0 3 ?_; simp only [pz, pn, sz, sc, hW1, hW3, hW4, QA]
        refine r0 4 ?_; simp only [pz, pn, sz, sc, hW1, hW3, hW4, QA]
        refine r0 5 ?_; simp only [pz, pn, sz, sc, hW1, hW3, hW4, QA]
        refine r0 6 ?_; simp only [pz, pn, sz, sc, hW1, hW3, hW4, QA]
        refine r0 8 ?_; simp only [pz, pn, sz, sc, hW1, hW3, hW4, QA]
        refine rl 7 rfl ?_ (by first | exact ylA ta24 | exact ylM ta24); simp only [pz, pn, sz, sc, hW1, hW3, hW4, QA]
        refine r1 9 ?_; (try refine wl_guard (by rfl) ?_); (refine kf gf25 hst (hpr) rfl rfl rfl rfl ?_; clear hst; intro w hst); (try simp only [pz, pn, sz, sc, hW1, hW3, hW4, QA]); refine re ?_
        refine r0 10 ?_; simp only [pz, pn, sz, sc, hW1, hW3, hW4, QA]
        refine r1 11 ?_; (try refine wl_guard (by rfl) ?_); (refine kf gf67 hst (hbit) rfl rfl rfl rfl ?_; clear hst; intro w hst); (try simp only [pz, pn, sz, sc, hW1, hW3, hW4, QA]); refine re ?_
        refine r0 12 ?_; simp only [pz, pn, sz, sc, hW1, hW3, hW4, QA]
        refine r0 13 ?_; simp only [pz, pn, sz, sc, hW1, hW3, hW4, QA]
        refine rd_ ?_
        all_goals
          go_wp2_with fail
          refine bp_t rfl rfl (by rfl) ⟨?_, hst.keeps⟩
          rfl
  · rw [if_neg hA]
    have QA : ((fld : Int) == 2 * (E : Int) + 1) = false := by simp; omega
    clear hA
    by_cases hB : fld = 0
    · rw [if_pos hB]
      have QB : ¬ (0 : Int) < (fld : Int) := by omega
      have QB2 : ¬ 0 < fld := by omega
      have hB' := Lib.hid hB
      clear hB
      by_cases h0 : fr = 0
      · rw [if_pos h0]
        have Q0 : decide (fr = 0) = true := by simpa using h0
        clear h0
        go_enter Tryz.func64, Tryz.ntmps64
        go_wp2_with ((first | (refine kf gf68 hst (hfit) rfl rfl rfl rfl ?_; clear hst; intro w hst) | (refine kf gf34 hst (hfd) rfl rfl rfl rfl ?_; clear hst; intro w hst) | (refine kf gf36 hst (hfr) rfl rfl rfl rfl ?_; clear hst; intro w hst) | (refine kf gf51 hst (hem) rfl rfl rfl rfl ?_; clear hst; intro w hst) | (refine kb 3 hst rfl rfl ?_; clear hst; intro b3 w hb3 hst) | (refine kl hst ta24 rfl ?_) | (refine ke tr44 tc22 rfl ?_)); try simp only [pz, pn, sz, sc])
        refine wp_region_T 14  hst (by kernel_rfl) ?_; clear hst; intro w hst; (try simp only [List.length_cons, List.length_nil, Nat.reduceAdd, Array.replicate_succ, Array.replicate_zero, List.push_toArray, List.nil_append, List.cons_append])
        refine r0 0 ?_; simp only [pz, pn, sz, sc, hW3, hW4, QA]
        refine r0 1 ?_; simp only [pz, pn, sz, sc, hW3, hW4, QA]
        refine r1 2 ?_; (refine kf gf51 hst (hem) rfl rfl rfl rfl ?_; clear hst; intro w hst); (try simp only [pz, pn, sz, sc, hW3, hW4, QA]); refine re ?_
        refine r0 3 ?_; simp only [pz, pn, sz, sc, hW3, hW4, QA]
        refine r0 4 ?_; simp only [pz, pn, sz, sc, hW3, hW4, QA]
        refine r0 5 ?_; simp only [pz, pn, sz, sc, hW3, hW4, QA]
        refine r0 6 ?_; simp only [pz, pn, sz, sc, hW3, hW4, QA]
        refine rp 7 ?_; simp only [pz, pn, sz, sc, hW3, hW4, QA]
        refine rp 8 ?_; simp only [pz, pn, sz, sc, hW3, hW4, QA]
        refine rp 9 ?_; simp only [pz, pn, sz, sc, hW3, hW4, QA]
        refine rp 10 ?_; simp only [pz, pn, sz, sc, hW3, hW4, QA]
        refine rp 11 ?_; simp only [pz, pn, sz, sc, hW3, hW4, QA]
        refine r0 12 ?_; simp only [pz, pn, sz, sc, hW3, hW4, QA]
        refine r0 13 ?_; simp only [pz, pn, sz, sc, hW3, hW4, QA]
        refine rd_ ?_
        all_goals
          go_wp2_with ((first | (refine kf gf51 hst (hem) rfl rfl rfl rfl ?_; clear hst; intro w hst)); try simp only [pz, pn, sz, sc])
          refine bp_t rfl rfl (by rfl) ⟨?_, hst.keeps⟩
          rfl
      · rw [if_neg h0]
        have Q0 : decide (fr = 0) = false := by simpa using h0
        clear h0
        go_enter Tryz.func64, Tryz.ntmps64
        go_wp2_with ((first | (refine kf gf68 hst (hfit) rfl rfl rfl rfl ?_; clear hst; intro w hst) | (refine kf gf34 hst (hfd) rfl rfl rfl rfl ?_; clear hst; intro w hst) | (refine kf gf36 hst (hfr) rfl rfl rfl rfl ?_; clear hst; intro w hst) | (refine kf gf51 hst (hem) rfl rfl rfl rfl ?_; clear hst; intro w hst) | (refine kb 3 hst rfl rfl ?_; clear hst; intro b3 w hb3 hst) | (refine kl hst ta24 rfl ?_) | (refine ke tr44 tc22 rfl ?_)); try simp only [pz, pn, sz, sc])
        refine wp_region_T 14  hst (by kernel_rfl) ?_; clear hst; intro w hst; (try simp only [List.length_cons, List.length_nil, Nat.reduceAdd, Array.replicate_succ, Array.replicate_zero, List.push_toArray, List.nil_append, List.cons_append])
        refine r0 0 ?_; simp only [pz, pn, sz, sc, hW3, hW4, QA]
        refine r0 1 ?_; simp only [pz, pn, sz, sc, hW3, hW4, QA]
        refine r1 2 ?_; (refine kf gf51 hst (hem) rfl rfl rfl rfl ?_; clear hst; intro w hst); (try simp only [pz, pn, sz, sc, hW3, hW4, QA]); refine re ?_
        refine r0 3 ?_; simp only [pz, pn, sz, sc, hW3, hW4, QA]
        refine r0 4 ?_; simp only [pz, pn, sz, sc, hW3, hW4, QA]
        refine r0 5 ?_; simp only [pz, pn, sz, sc, hW3, hW4, QA]
        refine r0 6 ?_; simp only [pz, pn, sz, sc, hW3, hW4, QA]
        refine rp 7 ?_; simp only [pz, pn, sz, sc, hW3, hW4, QA]
        refine rp 8 ?_; simp only [pz, pn, sz, sc, hW3, hW4, QA]
        refine rp 9 ?_; simp only [pz, pn, sz, sc, hW3, hW4, QA]
        refine rp 10 ?_; simp only [pz, pn, sz, sc, hW3, hW4, QA]
        refine rp 11 ?_; simp only [pz, pn, sz, sc, hW3, hW4, QA]
        refine r0 12 ?_; simp only [pz, pn, sz, sc, hW3, hW4, QA]
        refine r0 13 ?_; simp only [pz, pn, sz, sc, hW3, hW4, QA]
        refine rd_ ?_
        all_goals
          go_wp2_with ((first | (refine kf gf51 hst (hem) rfl rfl rfl rfl ?_; clear hst; intro w hst)); try simp only [pz, pn, sz, sc])
          refine bp_t rfl rfl (by rfl) ⟨?_, hst.keeps⟩
          rfl
    · rw [if_neg hB]
      have QB : (0 : Int) < (fld : Int) := by omega
      have QB2 : 0 < fld := by omega
      clear hB
      go_enter Tryz.func64, Tryz.ntmps64
      go_wp2_with ((first | (refine kf gf68 hst (hfit) rfl rfl rfl rfl ?_; clear hst; intro w hst) | (refine kf gf34 hst (hfd) rfl rfl rfl rfl ?_; clear hst; intro w hst) | (refine kf gf36 hst (hfr) rfl rfl rfl rfl ?_; clear hst; intro w hst) | (refine kf gf51 hst (hem) rfl rfl rfl rfl ?_; clear hst; intro w hst) | (refine kb 3 hst rfl rfl ?_; clear hst; intro b3 w hb3 hst) | (refine kl hst ta24 rfl ?_) | (refine ke tr44 tc22 rfl ?_)); try simp only [pz, pn, sz, sc])
      refine wp_region_T 14  hst (by kernel_rfl) ?_; clear hst; intro w hst; (try simp only [List.length_cons, List.length_nil, Nat.reduceAdd, Array.replicate_succ, Array.replicate_zero, List.push_toArray, List.nil_append, List.cons_append])
      refine r0 0 ?_; simp only [pz, pn, sz, sc, hW3, hW4, QA]
      refine r0 1 ?_; simp only [pz, pn, sz, sc, hW3, hW4, QA]
      refine r1 2 ?_; (refine kf gf51 hst (hem) rfl rfl rfl rfl ?_; clear hst; intro w hst); (try simp only [pz, pn, sz, sc, hW3, hW4, QA]); refine re ?_
      refine r0 3 ?_; simp only [pz, pn, sz, sc, hW3, hW4, QA]
      refine r0 4 ?_; simp only [pz, pn, sz, sc, hW3, hW4, QA]
      refine r0 5 ?_; simp only [pz, pn, sz, sc, hW3, hW4, QA]
      refine r0 6 ?_; simp only [pz, pn, sz, sc, hW3, hW4, QA]
      refine rp 7 ?_; simp only [pz, pn, sz, sc, hW3, hW4, QA]
      refine rp 8 ?_; simp only [pz, pn, sz, sc, hW3, hW4, QA]
      refine rp 9 ?_; simp only [pz, pn, sz, sc, hW3, hW4, QA]
      refine rp 10 ?_; simp only [pz, pn, sz, sc, hW3, hW4, QA]
      refine rp 11 ?_; simp only [pz, pn, sz, sc, hW3, hW4, QA]
      refine r0 12 ?_; simp only [pz, pn, sz, sc, hW3, hW4, QA]
      refine r0 13 ?_; simp only [pz, pn, sz, sc, hW3, hW4, QA]
      refine rd_ ?_
      all_goals
        go_wp2_with ((first | (refine kf gf51 hst (hem) rfl rfl rfl rfl ?_; clear hst; intro w hst)); try simp only [pz, pn, sz, sc])
        refine bp_t rfl rfl (by rfl) ⟨?_, hst.keeps⟩
        rfl

end Go.Proofs.YtefpoconpeggpaaGreatDoor.Rd
