/- What the reference's Wide answers. -/
import Derived.Test.YtojjmcghcgidlaaDoorReF
import Derived.Test.YtojjmcghcgidlaaDoorRdG
import Derived.Test.YtojjmcghcgidlaaDoorReD
namespace Go.Proofs.YtojjmcghcgidlaaDoor.Rd
open Go Go.RowKit
set_option linter.unusedVariables false
set_option linter.unusedSimpArgs false
set_option maxRecDepth 100000

theorem C_limb (i : Nat) : C ^ i = 2 ^ (32 * (i % 2)) * B ^ (i / 2) := by
  rw [B_pow, C_pow, ← Nat.pow_add]; congr 1; omega
theorem wide_step (n i : Nat) : lb (n % C ^ i) (i / 2) + dg n i * 2 ^ (32 * (i % 2)) < B ∧ setL (n % C ^ i) (i / 2) (lb (n % C ^ i) (i / 2) + dg n i * 2 ^ (32 * (i % 2))) = n % C ^ (i + 1) := by
  have hs := dg_split n i
  have hC := C_limb i
  have hlt : n % C ^ (i + 1) < B ^ (i / 2 + 1) := by
    refine Nat.lt_of_lt_of_le (Nat.mod_lt _ (Cp_pos _)) ?_
    rw [B_pow, C_pow]; exact Nat.pow_le_pow_right (by omega) (by omega)
  have h := setL_eq (n % C ^ i) (i / 2) (lb (n % C ^ i) (i / 2) + dg n i * 2 ^ (32 * (i % 2)))
  have e : dg n i * 2 ^ (32 * (i % 2)) * B ^ (i / 2) = dg n i * C ^ i := by rw [hC, Nat.mul_assoc]
  rw [Nat.add_mul, e] at h
  have hm : n % C ^ i < B ^ (i / 2 + 1) := by omega
  constructor
  · have e1 : lb (n % C ^ i) (i / 2) = n % C ^ i / B ^ (i / 2) := by
      unfold lb
      rw [Nat.mod_eq_of_lt]
      rw [Nat.div_lt_iff_lt_mul (Bp_pos _), ← Nat.pow_succ']; exact hm
    have e2 : (n % C ^ i + dg n i * 2 ^ (32 * (i % 2)) * B ^ (i / 2)) / B ^ (i / 2) = n % C ^ i / B ^ (i / 2) + dg n i * 2 ^ (32 * (i % 2)) := Nat.add_mul_div_right _ _ (Bp_pos _)
    rw [e1, ← e2, e, ← hs, Nat.div_lt_iff_lt_mul (Bp_pos _), ← Nat.pow_succ']
    exact hlt
  · rw [hs]; omega

set_option maxHeartbeats 8000000 in
theorem ref02_Wide (v : Value) (n : Nat) (w0 : World) (h : BigAt w0 v (dl n) n) (hl : dl n ≤ 100000) : GivesAt Tryd.prog 30 #[v] (.tuple #[W (n % M), .bool (decide (M ≤ n))]) w0 := by
  have hst := St.start [] w0
  have hM : M ≤ n ↔ 16 < dl n := by
    have := @dl_le n 16
    rw [← M_C] at this
    omega
  obtain ⟨hn, _, a, cap, rfl, _, hmem⟩ := h
  obtain ⟨l, hl'⟩ : ∃ l, dl n = l := ⟨_, rfl⟩
  rw [hl'] at hM hn hl hmem ⊢
  have hover : decide (M ≤ n) = decide (16 < l) := by simp only [hM]
  have hfin : n % M = n % C ^ (min l 16) := by
    rw [M_C]
    rcases Nat.le_total l 16 with h | h
    · rw [Nat.min_eq_left h, Nat.mod_eq_of_lt hn, Nat.mod_eq_of_lt (Nat.lt_of_lt_of_le hn (Nat.pow_le_pow_right C_pos h))]
    · rw [Nat.min_eq_right h]
  rw [hfin, hover]
  clear hfin hover hM hn
  have hl'' := Lib.hid hl'
  clear hl'
  go_enter Tryd.func30, Tryd.ntmps30
  go_wp2_with ((first | (refine ka 2 hst tz24 rfl rfl ?_; clear hst; intro b2 w hb2 hst) | (refine ka 4 hst tz24 rfl rfl ?_; clear hst; intro b4 w hb4 hst) | (refine kc hst tc22 rfl ?_) | (refine kc hst tc48 rfl ?_) | (refine ks hst tc22 rfl rfl ?_; clear hst; intro w hst) | (refine kl hst ta24 rfl ?_) | (refine kt hst ta24 rfl rfl ?_; clear hst; intro w hst)); try simp only [pz, pn, sz, sc])
  go_loopw [5] (fun vi wr => ∃ (i : Nat), i ≤ l ∧ i ≤ 16 ∧ vi = .int .i64 i ∧ St w0 [] [(b4, .cells (wc 8 (n % C ^ i)) 24), (b2, .cells (wc 8 0) 24)] wr) (fun vi _ => 16 - (intOf vi).toNat)
  case atStart => exact ⟨0, by omega, by omega, rfl, by simpa [Nat.mod_one] using hst⟩
  case round =>
    clear hst
    obtain ⟨i, hil, hi16, rfl, hst⟩ := hrel
    by_cases hlt : i < l ∧ i < 16
    · obtain ⟨h1, h2⟩ := hlt
      obtain ⟨g, cur, E, rfl, hg, hc⟩ := hmem (by omega)
      have hcx := hc i h1
      obtain ⟨s1, s2⟩ := wide_step n i
      have hset := wc_setL 8 (n % C ^ i) (i / 2) _ s1
      rw [s2] at hset
      have hx := dg_lt' n i
      obtain ⟨j, hj⟩ : ∃ j, j = i / 2 := ⟨_, rfl⟩
      have hm2 : i % 2 = 0 ∨ i % 2 = 1 := by omega
      rw [← hj] at s1 hset
      have hcell := wc_get 8 (n % C ^ i) j (by omega)
      generalize dg n i = x at *
      have J1 : (i : Int) / 2 = (j : Int) := by omega
      have J2 : (0 : Int) ≤ (j : Int) := by omega
      have J5 : IntKind.i64.wrap (j : Int) = (j : Int) := by rw [IntKind.wrap_i64]; omega
      have J3 : (j : Int) < 8 := by omega
      have J4 : j < 8 := by omega
      have I1 : (0 : Int) ≤ (i : Int) := by omega
      have I2 : (i : Int) < (l : Int) := by omega
      have I3 : (i : Int) < 16 := by omega
      have hg' := Lib.hid hg
      have W1 : IntKind.u64.wrap (x : Int) = (x : Int) := by rw [u64_wrap, Nat.mod_eq_of_lt (by rw [B_val]; omega)]
      have hmm := Lib.hid hmem
      rcases hm2 with hm2 | hm2
      · rw [hm2, Nat.mul_zero, Nat.pow_zero, Nat.mul_one] at s1 hset
        have P1 : (i : Int) % 2 = 0 := by omega
        have P2 : (i : Int).tmod 2 = 0 := by rw [Int.tmod_eq_emod_of_nonneg (by omega)]; omega
        obtain ⟨s, hs⟩ : ∃ s, s = lb (n % C ^ i) j + x := ⟨_, rfl⟩
        rw [← hs] at s1 hset
        have W2 : IntKind.u64.wrap ((lb (n % C ^ i) j : Int) + (x : Int)) = (s : Int) := u64_wrap' _ s _ (by omega) (Nat.mod_eq_of_lt s1)
        have F := Lib.hid (show IntKind.u64.wrap (((lb (n % C ^ i) j : Nat) : Int) + IntKind.u64.wrap ((x : Int) * 2 ^ min (IntKind.i64.wrap 0).toNat 64)) = (s : Int) by
          rw [show IntKind.i64.wrap 0 = 0 by decide, show (2 : Int) ^ min (0 : Int).toNat 64 = 1 from rfl, Int.mul_one, W1, W2])
        have hset' := Lib.hid hset
        clear hset s1 s2 hx hj hs hc hg hm2 hmem hcell
        go_wp2_with ((first | (refine ka 2 hst tz24 rfl rfl ?_; clear hst; intro b2 w hb2 hst) | (refine ka 4 hst tz24 rfl rfl ?_; clear hst; intro b4 w hb4 hst) | (refine kc hst tc22 rfl ?_) | (refine kc hst tc48 rfl ?_) | (refine ks hst tc22 rfl rfl ?_; clear hst; intro w hst) | (refine kl hst ta24 rfl ?_) | (refine kt hst ta24 rfl rfl ?_; clear hst; intro w hst)); try simp only [pz, pn, sz, sc])
        refine wp_region_T 17  hst (by kernel_rfl) ?_; clear hst; intro w hst; (try dsimp only [List.length_cons, List.length_nil]); (try simp only [List.length_cons, List.length_nil, Nat.reduceAdd, Array.replicate_succ, Array.replicate_zero, List.push_toArray, List.nil_append, List.cons_append])
        refine r0 0 ?_; simp only [pz, pn, sz, sc]
        refine r0 1 ?_; simp only [pz, pn, sz, sc]
        refine r0 2 ?_; simp only [pz, pn, sz, sc]
        refine r0 3 ?_; simp only [pz, pn, sz, sc]
        refine r0 4 ?_; simp only [pz, pn, sz, sc]
        refine r0 6 ?_; simp only [pz, pn, sz, sc]
        refine r0 7 ?_; simp only [pz, pn, sz, sc]
        refine r0 8 ?_; simp only [pz, pn, sz, sc]
        refine r0 11 ?_; simp only [pz, pn, sz, sc]
        refine r0 12 ?_; simp only [pz, pn, sz, sc]
        refine r0 13 ?_; simp only [pz, pn, sz, sc]
        refine rl 5 rfl ?_ (by first | exact fun w hw => run_opLoadOld hw.keeps tc22 rfl (by rfl) hg'.out hcx | exact ylC tc22); simp only [pz, pn, sz, sc]
        refine rl 9 rfl ?_ (by first | exact fun w hw => run_opLoadOld hw.keeps tc48 rfl (by rfl) hg'.out hcx | exact ylC tc48); simp only [pz, pn, sz, sc]
        refine r0 10 ?_; simp only [pz, pn, sz, sc]
        refine r0 14 ?_; simp only [pz, pn, sz, sc]
        refine r0 15 ?_; simp only [pz, pn, sz, sc]
        refine r0 16 ?_; simp only [pz, pn, sz, sc]
        refine r1 17 ?_; (refine ks hst tc22 rfl rfl ?_; clear hst; intro w hst); (try simp only [pz, pn, sz, sc]); refine re ?_
        refine rd_ ?_
        go_wp2_with ((first | (refine ka 2 hst tz24 rfl rfl ?_; clear hst; intro b2 w hb2 hst) | (refine ka 4 hst tz24 rfl rfl ?_; clear hst; intro b4 w hb4 hst) | (refine kc hst tc22 rfl ?_) | (refine kc hst tc48 rfl ?_) | (refine ks hst tc22 rfl rfl ?_; clear hst; intro w hst) | (refine kl hst ta24 rfl ?_) | (refine kt hst ta24 rfl rfl ?_; clear hst; intro w hst)); try simp only [pz, pn, sz, sc])
        rw [F.out] at hst
        refine ⟨⟨i + 1, by omega, by omega, by go_num, by rw [← hset'.out]; exact hst⟩, ?_⟩
        simp [intOf]; omega
      · rw [hm2, Nat.mul_one, show 2 ^ 32 = 4294967296 from rfl] at s1 hset
        obtain ⟨z, hz⟩ : ∃ z, z = x * 4294967296 := ⟨_, rfl⟩
        have hzB : z < B := by rw [B_val]; omega
        rw [← hz] at s1 hset
        have W3 : IntKind.u64.wrap ((x : Int) * 4294967296) = (z : Int) := u64_wrap' _ z _ (by omega) (Nat.mod_eq_of_lt hzB)
        have P1 : (i : Int) % 2 = 1 := by omega
        have P2 : (i : Int).tmod 2 = 1 := by rw [Int.tmod_eq_emod_of_nonneg (by omega)]; omega
        obtain ⟨s, hs⟩ : ∃ s, s = lb (n % C ^ i) j + z := ⟨_, rfl⟩
        rw [← hs] at s1 hset
        have W2 : IntKind.u64.wrap ((lb (n % C ^ i) j : Int) + (z : Int)) = (s : Int) := u64_wrap' _ s _ (by omega) (Nat.mod_eq_of_lt s1)
        have F := Lib.hid (show IntKind.u64.wrap (((lb (n % C ^ i) j : Nat) : Int) + IntKind.u64.wrap ((x : Int) * 2 ^ min (IntKind.i64.wrap 32).toNat 64)) = (s : Int) by
          rw [show IntKind.i64.wrap 32 = 32 by decide, show (2 : Int) ^ min (32 : Int).toNat 64 = 4294967296 from rfl, W3, W2])
        have hset' := Lib.hid hset
        clear hz hzB hset s1 s2 hx hj hs hc hg hm2 hmem hcell
        go_wp2_with ((first | (refine ka 2 hst tz24 rfl rfl ?_; clear hst; intro b2 w hb2 hst) | (refine ka 4 hst tz24 rfl rfl ?_; clear hst; intro b4 w hb4 hst) | (refine kc hst tc22 rfl ?_) | (refine kc hst tc48 rfl ?_) | (refine ks hst tc22 rfl rfl ?_; clear hst; intro w hst) | (refine kl hst ta24 rfl ?_) | (refine kt hst ta24 rfl rfl ?_; clear hst; intro w hst)); try simp only [pz, pn, sz, sc])
        refine wp_region_T 17  hst (by kernel_rfl) ?_; clear hst; intro w hst; (try dsimp only [List.length_cons, List.length_nil]); (try simp only [List.length_cons, List.length_nil, Nat.reduceAdd, Array.replicate_succ, Array.replicate_zero, List.push_toArray, List.nil_append, List.cons_append])
        refine r0 0 ?_; simp only [pz, pn, sz, sc]
        refine r0 1 ?_; simp only [pz, pn, sz, sc]
        refine r0 2 ?_; simp only [pz, pn, sz, sc]
        refine r0 3 ?_; simp only [pz, pn, sz, sc]
        refine r0 4 ?_; simp only [pz, pn, sz, sc]
        refine r0 6 ?_; simp only [pz, pn, sz, sc]
        refine r0 7 ?_; simp only [pz, pn, sz, sc]
        refine r0 8 ?_; simp only [pz, pn, sz, sc]
        refine r0 11 ?_; simp only [pz, pn, sz, sc]
        refine r0 12 ?_; simp only [pz, pn, sz, sc]
        refine r0 13 ?_; simp only [pz, pn, sz, sc]
        refine rl 5 rfl ?_ (by first | exact fun w hw => run_opLoadOld hw.keeps tc22 rfl (by rfl) hg'.out hcx | exact ylC tc22); simp only [pz, pn, sz, sc]
        refine rl 9 rfl ?_ (by first | exact fun w hw => run_opLoadOld hw.keeps tc48 rfl (by rfl) hg'.out hcx | exact ylC tc48); simp only [pz, pn, sz, sc]
        refine r0 10 ?_; simp only [pz, pn, sz, sc]
        refine r0 14 ?_; simp only [pz, pn, sz, sc]
        refine r0 15 ?_; simp only [pz, pn, sz, sc]
        refine r0 16 ?_; simp only [pz, pn, sz, sc]
        refine r1 17 ?_; (refine ks hst tc22 rfl rfl ?_; clear hst; intro w hst); (try simp only [pz, pn, sz, sc]); refine re ?_
        refine rd_ ?_
        go_wp2_with ((first | (refine ka 2 hst tz24 rfl rfl ?_; clear hst; intro b2 w hb2 hst) | (refine ka 4 hst tz24 rfl rfl ?_; clear hst; intro b4 w hb4 hst) | (refine kc hst tc22 rfl ?_) | (refine kc hst tc48 rfl ?_) | (refine ks hst tc22 rfl rfl ?_; clear hst; intro w hst) | (refine kl hst ta24 rfl ?_) | (refine kt hst ta24 rfl rfl ?_; clear hst; intro w hst)); try simp only [pz, pn, sz, sc])
        rw [F.out] at hst
        refine ⟨⟨i + 1, by omega, by omega, by go_num, by rw [← hset'.out]; exact hst⟩, ?_⟩
        simp [intOf]; omega
    · have hie : i = min l 16 := by omega
      have hfl : decide ((16 : Int) < (l : Int)) = decide (16 < l) := by
        rw [decide_eq_decide]; omega
      have hfl' := Lib.hid hfl
      rcases Nat.lt_or_ge i l with h | h
      · have h16 : i = 16 := by omega
        subst h16
        have I2 : (16 : Int) < (l : Int) := by omega
        have hie' := Lib.hid hie
        have I4 : 16 < l := h
        clear hie hfl hlt hil hi16 hmem
        go_wp2_with ((first | (refine ka 2 hst tz24 rfl rfl ?_; clear hst; intro b2 w hb2 hst) | (refine ka 4 hst tz24 rfl rfl ?_; clear hst; intro b4 w hb4 hst) | (refine kc hst tc22 rfl ?_) | (refine kc hst tc48 rfl ?_) | (refine ks hst tc22 rfl rfl ?_; clear hst; intro w hst) | (refine kl hst ta24 rfl ?_) | (refine kt hst ta24 rfl rfl ?_; clear hst; intro w hst)); try simp only [pz, pn, sz, sc])
        refine bp_ct rfl rfl (la hst ta24) (by rfl) ⟨?_, hst.keeps⟩
        rw [← hie'.out]; simp [I4]; rfl
      · have hie2 : i = l := by omega
        subst hie2
        have I2 : ¬ ((i : Int) < (i : Int)) := by omega
        have I3 : ¬ ((16 : Int) < (i : Int)) := by omega
        have hie' := Lib.hid hie
        have I4 : ¬ (16 < i) := by omega
        have I5 : ((i : Int)) ≤ 16 := by omega
        clear hie hfl hlt hil hi16 hmem
        go_wp2_with ((first | (refine ka 2 hst tz24 rfl rfl ?_; clear hst; intro b2 w hb2 hst) | (refine ka 4 hst tz24 rfl rfl ?_; clear hst; intro b4 w hb4 hst) | (refine kc hst tc22 rfl ?_) | (refine kc hst tc48 rfl ?_) | (refine ks hst tc22 rfl rfl ?_; clear hst; intro w hst) | (refine kl hst ta24 rfl ?_) | (refine kt hst ta24 rfl rfl ?_; clear hst; intro w hst)); try simp only [pz, pn, sz, sc])
        refine bp_ct rfl rfl (la hst ta24) (by rfl) ⟨?_, hst.keeps⟩
        rw [← hie'.out]; simp [I4]; rfl

end Go.Proofs.YtojjmcghcgidlaaDoor.Rd
