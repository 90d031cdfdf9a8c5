/- What the reference's Sub answers. -/
import Derived.Test.YtmkeaedpfmblgaaGreatJ23
import Derived.Test.YtmkeaedpfmblgaaGreatJ07
import Derived.Test.YtmkeaedpfmblgaaGreatJ06
namespace Go.Proofs.YtmkeaedpfmblgaaGreat.Rd
open Go Go.RowKit
set_option linter.unusedVariables false
set_option linter.unusedSimpArgs false
set_option maxRecDepth 100000

theorem C_limb (i : Nat) : C ^ i = 2 ^ (32 * (i % 2)) * B ^ (i / 2) := by
  rw [B_pow, C_pow, ← Nat.pow_add]; congr 1; omega
theorem wide_step (n i : Nat) : lb (n % C ^ i) (i / 2) + dg n i * 2 ^ (32 * (i % 2)) < B ∧ setL (n % C ^ i) (i / 2) (lb (n % C ^ i) (i / 2) + dg n i * 2 ^ (32 * (i % 2))) = n % C ^ (i + 1) := by
  have hs := dg_split n i
  have hC := C_limb i
  have hlt : n % C ^ (i + 1) < B ^ (i / 2 + 1) := by
    refine Nat.lt_of_lt_of_le (Nat.mod_lt _ (Cp_pos _)) ?_
    rw [B_pow, C_pow]; exact Nat.pow_le_pow_right (by omega) (by omega)
  have h := setL_eq (n % C ^ i) (i / 2) (lb (n % C ^ i) (i / 2) + dg n i * 2 ^ (32 * (i % 2)))
  have e : dg n i * 2 ^ (32 * (i % 2)) * B ^ (i / 2) = dg n i * C ^ i := by rw [hC, Nat.mul_assoc]
  rw [Nat.add_mul, e] at h
  have hm : n % C ^ i < B ^ (i / 2 + 1) := by omega
  constructor
  · have e1 : lb (n % C ^ i) (i / 2) = n % C ^ i / B ^ (i / 2) := by
      unfold lb
      rw [Nat.mod_eq_of_lt]
      rw [Nat.div_lt_iff_lt_mul (Bp_pos _), ← Nat.pow_succ']; exact hm
    have e2 : (n % C ^ i + dg n i * 2 ^ (32 * (i % 2)) * B ^ (i / 2)) / B ^ (i / 2) = n % C ^ i / B ^ (i / 2) + dg n i * 2 ^ (32 * (i % 2)) := Nat.add_mul_div_right _ _ (Bp_pos _)
    rw [e1, ← e2, e, ← hs, Nat.div_lt_iff_lt_mul (Bp_pos _), ← Nat.pow_succ']
    exact hlt
  · rw [hs]; omega

set_option maxHeartbeats 8000000 in
theorem ref02_Wide (v : Value) (n : Nat) (w0 : World) (h : BigAt w0 v (dl n) n) (hl : dl n ≤ 100000) : GivesAt Tryz.prog 34 #[v] (.tuple #[W (n % M), .bool (decide (M ≤ n))]) w0 := by
  have hst := St.start [] w0
  have hM : M ≤ n ↔ 16 < dl n := by
    have := @dl_le n 16
    rw [← M_C] at this
    omega
  obtain ⟨hn, _, a, cap, rfl, _, hmem⟩ := h
  obtain ⟨l, hl'⟩ : ∃ l, dl n = l := ⟨_, rfl⟩
  rw [hl'] at hM hn hl hmem ⊢
  have hover : decide (M ≤ n) = decide (16 < l) := by simp only [hM]
  have hfin : n % M = n % C ^ (min l 16) := by
    rw [M_C]
    rcases Nat.le_total l 16 with h | h
    · rw [Nat.min_eq_left h, Nat.mod_eq_of_lt hn, Nat.mod_eq_of_lt (Nat.lt_of_lt_of_le hn (Nat.pow_le_pow_right C_pos h))]
    · rw [Nat.min_eq_right h]
  rw [hfin, hover]
  clear hfin hover hM hn
  have hl'' := Lib.hid hl'
  clear hl'
  go_enter Tryz.func34, Tryz.ntmps34
  go_wp2_with ((first | (refine ka 2 hst tz24 rfl rfl ?_; clear hst; intro b2 w hb2 hst) | (refine ka 4 hst tz24 rfl rfl ?_; clear hst; intro b4 w hb4 hst) | (refine kc hst tc22 rfl ?_) | (refine kc hst tc53 rfl ?_) | (refine ks hst tc22 rfl rfl ?_; clear hst; intro w hst) | (refine kl hst ta24 rfl ?_) | (refine klm hst ta24 rfl ?_) | (refine kt hst ta24 rfl rfl ?_; clear hst; intro w hst) | (refine ktm hst ta24 rfl rfl ?_; clear hst; intro w hst)); try simp only [pz, pn, sz, sc])
  go_loopw [5] (fun vi wr => ∃ (i : Nat), i ≤ l ∧ i ≤ 16 ∧ vi = .int .i64 i ∧ St w0 [] [(b4, .cells (wc 8 (n % C ^ i)) 24), (b2, .cells (wc 8 0) 24)] wr) (fun vi _ => 16 - (intOf vi).toNat)
  case atStart => exact ⟨0, by omega, by omega, rfl, by simpa [Nat.mod_one] using hst⟩
  case round =>
    clear hst
    obtain ⟨i, hil, hi16, rfl, hst⟩ := hrel
    by_cases hlt : i < l ∧ i < 16
    · obtain ⟨h1, h2⟩ := hlt
      obtain ⟨g, cur, E, rfl, hg, hc⟩ := hmem (by omega)
      have hcx := hc i h1
      obtain ⟨s1, s2⟩ := wide_step n i
      have hset := wc_setL 8 (n % C ^ i) (i / 2) _ s1
      rw [s2] at hset
      have hx := dg_lt' n i
      obtain ⟨j, hj⟩ : ∃ j, j = i / 2 := ⟨_, rfl⟩
      have hm2 : i % 2 = 0 ∨ i % 2 = 1 := by omega
      rw [← hj] at s1 hset
      have hcell := wc_get 8 (n % C ^ i) j (by omega)
      generalize dg n i = x at *
      have J1 : (i : Int) / 2 = (j : Int) := by omega
      have J2 : (0 : Int) ≤ (j : Int) := by omega
      have J5 : IntKind.i64.wrap (j : Int) = (j : Int) := by rw [IntKind.wrap_i64]; omega
      have J3 : (j : Int) < 8 := by omega
      have J4 : j < 8 := by omega
      have I1 : (0 : Int) ≤ (i : Int) := by omega
      have I2 : (i : Int) < (l : Int) := by omega
      have I3 : (i : Int) < 16 := by omega
      have hg' := Lib.hid hg
      have W1 : IntKind.u64.wrap (x : Int) = (x : Int) := by rw [u64_wrap, Nat.mod_eq_of_lt (by rw [B_val]; omega)]
      have hmm := Lib.hid hmem
      rcases hm2 with hm2 | hm2
      · rw [hm2, Nat.mul_zero, Nat.pow_zero, Nat.mul_one] at s1 hset
        have P1 : (i : Int) % 2 = 0 := by omega
        have P2 : (i : Int).tmod 2 = 0 := by rw [Int.tmod_eq_emod_of_nonneg (by omega)]; omega
        obtain ⟨s, hs⟩ : ∃ s, s = lb (n % C ^ i) j + x := ⟨_, rfl⟩
        rw [← hs] at s1 hset
        have W2 : IntKind.u64.wrap ((lb (n % C ^ i) j : Int) + (x : Int)) = (s : Int) := u64_wrap' _ s _ (by omega) (Nat.mod_eq_of_lt s1)
        have F := Lib.hid (show IntKind.u64.wrap (((lb (n % C ^ i) j : Nat) : Int) + IntKind.u64.wrap ((x : Int) * 2 ^ min (IntKind.i64.wrap 0).toNat 64)) = (s : Int) by
          rw [show IntKind.i64.wrap 0 = 0 by decide, show (2 : Int) ^ min (0 : Int).toNat 64 = 1 from rfl, Int.mul_one, W1, W2])
        have hset' := Lib.hid hset
        clear hset s1 s2 hx hj hs hc hg hm2 hmem hcell
        go_wp2_with ((first | (refine ka 2 hst tz24 rfl rfl ?_; clear hst; intro b2 w hb2 hst) | (refine ka 4 hst tz24 rfl rfl ?_; clear hst; intro b4 w hb4 hst) | (refine kc hst tc22 rfl ?_) | (refine kc hst tc53 rfl ?_) | (refine ks hst tc22 rfl rfl ?_; clear hst; intro w hst) | (refine kl hst ta24 rfl ?_) | (refine klm hst ta24 rfl ?_) | (refine kt hst ta24 rfl rfl ?_; clear hst; intro w hst) | (refine ktm hst ta24 rfl rfl ?_; clear hst; intro w hst)); try simp only [pz, pn, sz, sc])
        refine wp_region_T 17  hst (by kernel_rfl) ?_; clear hst; intro w hst; (try dsimp only [List.length_cons, List.length_nil]); (try simp only [List.length_cons, List.length_nil, Nat.reduceAdd, Array.replicate_succ, Array.replicate_zero, List.push_toArray, List.nil_append, List.cons_append])
        refine r0 0 ?_; simp only [pz, pn, sz, sc]
        refine r0 1 ?_; simp only [pz, pn, sz, sc]
        refine r0 2 ?_; simp only [pz, pn, sz, sc]
        refine r0 3 ?_; simp only [pz, pn, sz, sc]
        refine r0 4 ?_; simp only [pz, pn, sz, sc]
        refine r0 6 ?_; simp only [pz, pn, sz, sc]
        refine r0 7 ?_; simp only [pz, pn, sz, sc]
        refine r0 8 ?_; simp only [pz, pn, sz, sc]
        refine r0 11 ?_; simp only [pz, pn, sz, sc]
        refine r0 12 ?_; simp only [pz, pn, sz, sc]
        refine r0 13 ?_; simp only [pz, pn, sz, sc]
        refine rl 5 rfl ?_ (by first | exact fun w hw => run_opLoadOld hw.keeps tc22 rfl (by rfl) hg'.out hcx | exact ylC tc22); simp only [pz, pn, sz, sc]
        refine rl 9 rfl ?_ (by first | exact fun w hw => run_opLoadOld hw.keeps tc53 rfl (by rfl) hg'.out hcx | exact ylC tc53); simp only [pz, pn, sz, sc]
        refine r0 10 ?_; simp only [pz, pn, sz, sc]
        refine r0 14 ?_; simp only [pz, pn, sz, sc]
        refine r0 15 ?_; simp only [pz, pn, sz, sc]
        refine r0 16 ?_; simp only [pz, pn, sz, sc]
        refine r1 17 ?_; (refine ks hst tc22 rfl rfl ?_; clear hst; intro w hst); (try simp only [pz, pn, sz, sc]); refine re ?_
        refine rd_ ?_
        go_wp2_with ((first | (refine ka 2 hst tz24 rfl rfl ?_; clear hst; intro b2 w hb2 hst) | (refine ka 4 hst tz24 rfl rfl ?_; clear hst; intro b4 w hb4 hst) | (refine kc hst tc22 rfl ?_) | (refine kc hst tc53 rfl ?_) | (refine ks hst tc22 rfl rfl ?_; clear hst; intro w hst) | (refine kl hst ta24 rfl ?_) | (refine klm hst ta24 rfl ?_) | (refine kt hst ta24 rfl rfl ?_; clear hst; intro w hst) | (refine ktm hst ta24 rfl rfl ?_; clear hst; intro w hst)); try simp only [pz, pn, sz, sc])
        rw [F.out] at hst
        refine ⟨⟨i + 1, by omega, by omega, by go_num, by rw [← hset'.out]; exact hst⟩, ?_⟩
        simp [intOf]; omega
      · rw [hm2, Nat.mul_one, show 2 ^ 32 = 4294967296 from rfl] at s1 hset
        obtain ⟨z, hz⟩ : ∃ z, z = x * 4294967296 := ⟨_, rfl⟩
        have hzB : z < B := by rw [B_val]; omega
        rw [← hz] at s1 hset
        have W3 : IntKind.u64.wrap ((x : Int) * 4294967296) = (z : Int) := u64_wrap' _ z _ (by omega) (Nat.mod_eq_of_lt hzB)
        have P1 : (i : Int) % 2 = 1 := by omega
        have P2 : (i : Int).tmod 2 = 1 := by rw [Int.tmod_eq_emod_of_nonneg (by omega)]; omega
        obtain ⟨s, hs⟩ : ∃ s, s = lb (n % C ^ i) j + z := ⟨_, rfl⟩
        rw [← hs] at s1 hset
        have W2 : IntKind.u64.wrap ((lb (n % C ^ i) j : Int) + (z : Int)) = (s : Int) := u64_wrap' _ s _ (by omega) (Nat.mod_eq_of_lt s1)
        have F := Lib.hid (show IntKind.u64.wrap (((lb (n % C ^ i) j : Nat) : Int) + IntKind.u64.wrap ((x : Int) * 2 ^ min (IntKind.i64.wrap 32).toNat 64)) = (s : Int) by
          rw [show IntKind.i64.wrap 32 = 32 by decide, show (2 : Int) ^ min (32 : Int).toNat 64 = 4294967296 from rfl, W3, W2])
        have hset' := Lib.hid hset
        clear hz hzB hset s1 s2 hx hj hs hc hg hm2 hmem hcell
        go_wp2_with ((first | (refine ka 2 hst tz24 rfl rfl ?_; clear hst; intro b2 w hb2 hst) | (refine ka 4 hst tz24 rfl rfl ?_; clear hst; intro b4 w hb4 hst) | (refine kc hst tc22 rfl ?_) | (refine kc hst tc53 rfl ?_) | (refine ks hst tc22 rfl rfl ?_; clear hst; intro w hst) | (refine kl hst ta24 rfl ?_) | (refine klm hst ta24 rfl ?_) | (refine kt hst ta24 rfl rfl ?_; clear hst; intro w hst) | (refine ktm hst ta24 rfl rfl ?_; clear hst; intro w hst)); try simp only [pz, pn, sz, sc])
        refine wp_region_T 17  hst (by kernel_rfl) ?_; clear hst; intro w hst; (try dsimp only [List.length_cons, List.length_nil]); (try simp only [List.length_cons, List.length_nil, Nat.reduceAdd, Array.replicate_succ, Array.replicate_zero, List.push_toArray, List.nil_append, List.cons_append])
        refine r0 0 ?_; simp only [pz, pn, sz, sc]
        refine r0 1 ?_; simp only [pz, pn, sz, sc]
        refine r0 2 ?_; simp only [pz, pn, sz, sc]
        refine r0 3 ?_; simp only [pz, pn, sz, sc]
        refine r0 4 ?_; simp only [pz, pn, sz, sc]
        refine r0 6 ?_; simp only [pz, pn, sz, sc]
        refine r0 7 ?_; simp only [pz, pn, sz, sc]
        refine r0 8 ?_; simp only [pz, pn, sz, sc]
        refine r0 11 ?_; simp only [pz, pn, sz, sc]
        refine r0 12 ?_; simp only [pz, pn, sz, sc]
        refine r0 13 ?_; simp only [pz, pn, sz, sc]
        refine rl 5 rfl ?_ (by first | exact fun w hw => run_opLoadOld hw.keeps tc22 rfl (by rfl) hg'.out hcx | exact ylC tc22); simp only [pz, pn, sz, sc]
        refine rl 9 rfl ?_ (by first | exact fun w hw => run_opLoadOld hw.keeps tc53 rfl (by rfl) hg'.out hcx | exact ylC tc53); simp only [pz, pn, sz, sc]
        refine r0 10 ?_; simp only [pz, pn, sz, sc]
        refine r0 14 ?_; simp only [pz, pn, sz, sc]
        refine r0 15 ?_; simp only [pz, pn, sz, sc]
        refine r0 16 ?_; simp only [pz, pn, sz, sc]
        refine r1 17 ?_; (refine ks hst tc22 rfl rfl ?_; clear hst; intro w hst); (try simp only [pz, pn, sz, sc]); refine re ?_
        refine rd_ ?_
        go_wp2_with ((first | (refine ka 2 hst tz24 rfl rfl ?_; clear hst; intro b2 w hb2 hst) | (refine ka 4 hst tz24 rfl rfl ?_; clear hst; intro b4 w hb4 hst) | (refine kc hst tc22 rfl ?_) | (refine kc hst tc53 rfl ?_) | (refine ks hst tc22 rfl rfl ?_; clear hst; intro w hst) | (refine kl hst ta24 rfl ?_) | (refine klm hst ta24 rfl ?_) | (refine kt hst ta24 rfl rfl ?_; clear hst; intro w hst) | (refine ktm hst ta24 rfl rfl ?_; clear hst; intro w hst)); try simp only [pz, pn, sz, sc])
        rw [F.out] at hst
        refine ⟨⟨i + 1, by omega, by omega, by go_num, by rw [← hset'.out]; exact hst⟩, ?_⟩
        simp [intOf]; omega
    · have hie : i = min l 16 := by omega
      have hfl : decide ((16 : Int) < (l : Int)) = decide (16 < l) := by
        rw [decide_eq_decide]; omega
      have hfl' := Lib.hid hfl
      rcases Nat.lt_or_ge i l with h | h
      · have h16 : i = 16 := by omega
        subst h16
        have I2 : (16 : Int) < (l : Int) := by omega
        have hie' := Lib.hid hie
        have I4 : 16 < l := h
        clear hie hfl hlt hil hi16 hmem
        go_wp2_with ((first | (refine ka 2 hst tz24 rfl rfl ?_; clear hst; intro b2 w hb2 hst) | (refine ka 4 hst tz24 rfl rfl ?_; clear hst; intro b4 w hb4 hst) | (refine kc hst tc22 rfl ?_) | (refine kc hst tc53 rfl ?_) | (refine ks hst tc22 rfl rfl ?_; clear hst; intro w hst) | (refine kl hst ta24 rfl ?_) | (refine klm hst ta24 rfl ?_) | (refine kt hst ta24 rfl rfl ?_; clear hst; intro w hst) | (refine ktm hst ta24 rfl rfl ?_; clear hst; intro w hst)); try simp only [pz, pn, sz, sc])
        refine bp_ct rfl rfl (la hst ta24) (by rfl) ⟨?_, hst.keeps⟩
        rw [← hie'.out]; simp [I4]; rfl
      · have hie2 : i = l := by omega
        subst hie2
        have I2 : ¬ ((i : Int) < (i : Int)) := by omega
        have I3 : ¬ ((16 : Int) < (i : Int)) := by omega
        have hie' := Lib.hid hie
        have I4 : ¬ (16 < i) := by omega
        have I5 : ((i : Int)) ≤ 16 := by omega
        clear hie hfl hlt hil hi16 hmem
        go_wp2_with ((first | (refine ka 2 hst tz24 rfl rfl ?_; clear hst; intro b2 w hb2 hst) | (refine ka 4 hst tz24 rfl rfl ?_; clear hst; intro b4 w hb4 hst) | (refine kc hst tc22 rfl ?_) | (refine kc hst tc53 rfl ?_) | (refine ks hst tc22 rfl rfl ?_; clear hst; intro w hst) | (refine kl hst ta24 rfl ?_) | (refine klm hst ta24 rfl ?_) | (refine kt hst ta24 rfl rfl ?_; clear hst; intro w hst) | (refine ktm hst ta24 rfl rfl ?_; clear hst; intro w hst)); try simp only [pz, pn, sz, sc])
        refine bp_ct rfl rfl (la hst ta24) (by rfl) ⟨?_, hst.keeps⟩
        rw [← hie'.out]; simp [I4]; rfl

end Go.Proofs.YtmkeaedpfmblgaaGreat.Rd

namespace Go.Proofs.YtmkeaedpfmblgaaGreat.Rd
open Go Go.RowKit
set_option linter.unusedVariables false
set_option linter.unusedSimpArgs false
set_option maxRecDepth 100000

set_option maxHeartbeats 8000000 in
theorem ref01_Mul (va vb : Value) (la lb' a b : Nat) (w0 : World) (ha : BigAt w0 va la a) (hb : BigAt w0 vb lb' b) (hla : la ≤ 100000) (hlb : lb' ≤ 100000) : GivesB Tryz.prog 36 #[va, vb] (a * b) w0 := by
  have hst := St.start [] w0
  obtain ⟨han, _, aa, capa, rfl, _, hmema⟩ := ha
  obtain ⟨hbn, _, ab, capb, rfl, _, hmemb⟩ := hb
  obtain ⟨L, hL⟩ : ∃ L, L = la + lb' := ⟨_, rfl⟩
  have hL' : (la : Int) + (lb' : Int) = (L : Int) := by omega
  have hLl : L ≤ 200000 := by omega
  have hL1 : la + lb' ≤ L := by omega
  have hL2 : L ≤ la + lb' := by omega
  clear hL
  have hmade := made_u32 L
  have hmade' := Lib.hid hmade
  clear hmade
  go_enter Tryz.func36, Tryz.ntmps36
  go_wp2_with ((first | (refine wl_make (bytes := 4) (o := ⟨some 14, _, _, _, _, _⟩) hst (show SliceT _ 83 53 by unfold SliceT; kernel_rfl) (show ElemT _ 53 1 (.int .u32 0) from ElemT.of (by kernel_rfl)) (show BytesT _ _ _ by unfold BytesT; kernel_rfl) rfl rfl (by rfl) (by rfl) hmade'.out (by omega) (by omega) ?_; clear hst; intro b14 w hb14 hst; (try simp only [pz, pn, sz, sc])) | (refine kc hst tc53 rfl ?_) | (refine ks hst tc53 rfl rfl ?_; clear hst; intro w hst)); try simp only [pz, pn, sz, sc])
  go_loopw [6] (fun vi wr => ∃ (i : Nat), i ≤ la ∧ vi = .int .i64 i ∧ St w0 [] [(b14, .cells (uw L (a % C ^ i * b)) 53 (0, 0))] wr) (fun vi _ => la - (intOf vi).toNat)
  case atStart => exact ⟨0, by omega, rfl, by simpa [Nat.mod_one] using hst⟩
  case round =>
    clear hst
    obtain ⟨i, hi, rfl, hst⟩ := hrel
    by_cases hlt : i < la
    · have hila : (i : Int) < (la : Int) := by omega
      have h0i : (0 : Int) ≤ (i : Int) := by omega
      have hm0 : a % C ^ i * b < C ^ (i + lb') := by
        rw [Nat.pow_add]
        exact Nat.mul_lt_mul'' (Nat.mod_lt _ (Cp_pos i)) hbn
      go_wp2_with ((first | (refine kc hst tc53 rfl ?_) | (refine ks hst tc53 rfl rfl ?_; clear hst; intro w hst)); try simp only [pz, pn, sz, sc])
      go_loopw [8, 7] (fun vk vc wr => ∃ (k c m : Nat), k ≤ lb' ∧ vk = .int .i64 k ∧ vc = .int .u64 c ∧ c < C ∧ m < C ^ (i + lb') ∧ m + c * C ^ (i + k) = a % C ^ i * b + dg a i * (b % C ^ k) * C ^ i ∧ St w0 [] [(b14, .cells (uw L m) 53 (0, 0))] wr) (fun vk _ _ => lb' - (intOf vk).toNat)
      case atStart => exact ⟨0, 0, _, by omega, rfl, rfl, C_pos, hm0, by simp [Nat.mod_one], hst⟩
      case round =>
        clear hst hm0
        obtain ⟨k, c, m, hk, rfl, rfl, hc, hm, he, hst⟩ := hrel
        by_cases hkl : k < lb'
        · obtain ⟨ga, cura, Ea, rfl, hga, hca⟩ := hmema (by omega)
          obtain ⟨gb, curb, Eb, rfl, hgb, hcb⟩ := hmemb (by omega)
          have hcx := hca i hlt
          have hcy := hcb k hkl
          have hx := dg_lt a i
          have hy := dg_lt b k
          have hsb := dg_split b k
          obtain ⟨j, hj⟩ : ∃ j, j = i + k := ⟨_, rfl⟩
          have hej := uw_get L m j (by omega)
          have hed := dg_lt m j
          obtain ⟨s1, s2, s3⟩ := mul_step m j c (dg a i) (dg b k) hc hx hy
          have hsl := setC_lt m j ((c + dg m j + dg a i * dg b k) % C) (i + lb') hm (Nat.mod_lt _ C_pos) (by omega)
          have hset := uw_setC L m j ((c + dg m j + dg a i * dg b k) % C) (Nat.mod_lt _ C_pos)
          have he' : setC m j ((c + dg m j + dg a i * dg b k) % C) + (c + dg m j + dg a i * dg b k) / C * C ^ (i + (k + 1)) = a % C ^ i * b + dg a i * (b % C ^ (k + 1)) * C ^ i := by
            rw [show i + (k + 1) = j + 1 by omega, s3, hsb, hj, he, Nat.mul_add, Nat.add_mul, Nat.pow_add]
            have e1 : dg a i * (dg b k * C ^ k) * C ^ i = dg a i * dg b k * (C ^ i * C ^ k) := by
              rw [Nat.mul_comm (C ^ i), ← Nat.mul_assoc, ← Nat.mul_assoc]
            omega
          obtain ⟨x, hx'⟩ : ∃ x, x = dg a i := ⟨_, rfl⟩
          rw [← hx'] at hset he' hsl hcx s1 s2 hx
          generalize dg b k = y at *
          generalize dg m j = e at *
          obtain ⟨p, hp⟩ : ∃ p, p = x * y := ⟨_, rfl⟩
          obtain ⟨t1, ht1⟩ : ∃ t1, t1 = c + e := ⟨_, rfl⟩
          obtain ⟨t2, ht2⟩ : ∃ t2, t2 = c + e + x * y := ⟨_, rfl⟩
          rw [← ht2] at hset he' hsl s1 s2
          obtain ⟨d, hd⟩ : ∃ d, d = t2 % C := ⟨_, rfl⟩
          obtain ⟨q, hq⟩ : ∃ q, q = t2 / C := ⟨_, rfl⟩
          rw [← hd] at hset he' hsl
          rw [← hq] at he' s2
          have hCC : C * C = B := by decide
          rw [hCC] at s1
          have hpB : p < B := by omega
          rw [C_val] at hx hy hed hc
          have W1 : IntKind.u64.wrap (x : Int) = (x : Int) := by rw [u64_wrap, Nat.mod_eq_of_lt (by rw [B_val]; omega)]
          have W2 : IntKind.u64.wrap (y : Int) = (y : Int) := by rw [u64_wrap, Nat.mod_eq_of_lt (by rw [B_val]; omega)]
          have W3 : IntKind.u64.wrap (e : Int) = (e : Int) := by rw [u64_wrap, Nat.mod_eq_of_lt (by rw [B_val]; omega)]
          have W4 : IntKind.u64.wrap ((x : Int) * (y : Int)) = (p : Int) := u64_wrap' _ p _ (by rw [hp]; exact (Int.natCast_mul _ _).symm) (Nat.mod_eq_of_lt hpB)
          have W5 : IntKind.u64.wrap ((c : Int) + (e : Int)) = (t1 : Int) := u64_wrap' _ t1 _ (by omega) (Nat.mod_eq_of_lt (by rw [B_val]; omega))
          have W6 : IntKind.u64.wrap ((t1 : Int) + (p : Int)) = (t2 : Int) := u64_wrap' _ t2 _ (by omega) (Nat.mod_eq_of_lt s1)
          have W7 : IntKind.u32.wrap (t2 : Int) = (d : Int) := by rw [u32_wrap, hd]
          have W8 : (t2 : Int) / 4294967296 = (q : Int) := by rw [C_val] at hq; omega
          have J1 : (i : Int) + (k : Int) = (j : Int) := by omega
          have J2 : (0 : Int) ≤ (j : Int) := by omega
          have J5 : IntKind.i64.wrap (j : Int) = (j : Int) := by rw [IntKind.wrap_i64]; omega
          have J3 : (j : Int) < (L : Int) := by omega
          have J4 : j < L := by omega
          have K1 : (0 : Int) ≤ (k : Int) := by omega
          have K2 : (k : Int) < (lb' : Int) := by omega
          have hset' := Lib.hid hset
          have he'' := Lib.hid he'
          have s2' := Lib.hid s2
          have hsl' := Lib.hid hsl
          have hga' := Lib.hid hga
          have hgb' := Lib.hid hgb
          have hxx := Lib.hid hx'
          clear hset he' s2 hsl s1 s3 he hm hc hed hsb hy hx hd hq ht1 ht2 hp hpB hCC hca hcb hga hgb hj hx' hmema hmemb hL2
          go_wp2_with ((first | (refine kc hst tc53 rfl ?_) | (refine ks hst tc53 rfl rfl ?_; clear hst; intro w hst)); try simp only [pz, pn, sz, sc])
          refine wp_region_T 22  hst (by kernel_rfl) ?_; clear hst; intro w hst; (try dsimp only [List.length_cons, List.length_nil]); (try simp only [List.length_cons, List.length_nil, Nat.reduceAdd, Array.replicate_succ, Array.replicate_zero, List.push_toArray, List.nil_append, List.cons_append])
          refine r0 0 ?_; simp only [pz, pn, sz, sc]
          refine r0 1 ?_; simp only [pz, pn, sz, sc]
          refine r0 2 ?_; simp only [pz, pn, sz, sc]
          refine r0 3 ?_; simp only [pz, pn, sz, sc]
          refine r0 4 ?_; simp only [pz, pn, sz, sc]
          refine r0 5 ?_; simp only [pz, pn, sz, sc]
          refine r0 9 ?_; simp only [pz, pn, sz, sc]
          refine r0 10 ?_; simp only [pz, pn, sz, sc]
          refine r0 11 ?_; simp only [pz, pn, sz, sc]
          refine r0 14 ?_; simp only [pz, pn, sz, sc]
          refine r0 15 ?_; simp only [pz, pn, sz, sc]
          refine r0 16 ?_; simp only [pz, pn, sz, sc]
          refine rl 6 rfl ?_ (by first | exact fun w hw => run_opLoadOld hw.keeps tc53 rfl (by rfl) hga'.out hcx | exact fun w hw => run_opLoadOld hw.keeps tc53 rfl (by rfl) hgb'.out hcy | exact ylC tc53); simp only [pz, pn, sz, sc]
          refine r0 7 ?_; simp only [pz, pn, sz, sc]
          refine r0 8 ?_; simp only [pz, pn, sz, sc]
          refine rl 12 rfl ?_ (by first | exact fun w hw => run_opLoadOld hw.keeps tc53 rfl (by rfl) hga'.out hcx | exact fun w hw => run_opLoadOld hw.keeps tc53 rfl (by rfl) hgb'.out hcy | exact ylC tc53); simp only [pz, pn, sz, sc]
          refine r0 13 ?_; simp only [pz, pn, sz, sc]
          refine rl 17 rfl ?_ (by first | exact fun w hw => run_opLoadOld hw.keeps tc53 rfl (by rfl) hga'.out hcx | exact fun w hw => run_opLoadOld hw.keeps tc53 rfl (by rfl) hgb'.out hcy | exact ylC tc53); simp only [pz, pn, sz, sc]
          refine r0 18 ?_; simp only [pz, pn, sz, sc]
          refine r0 19 ?_; simp only [pz, pn, sz, sc]
          refine r0 20 ?_; simp only [pz, pn, sz, sc]
          refine r0 21 ?_; simp only [pz, pn, sz, sc]
          refine rd_ ?_
          go_wp2_with ((first | (refine kc hst tc53 rfl ?_) | (refine ks hst tc53 rfl rfl ?_; clear hst; intro w hst; (try rw [hset'.out] at hst))); try simp only [pz, pn, sz, sc])
          refine ⟨⟨k + 1, q, _, by omega, by go_num, rfl, s2'.out, hsl'.out, by rw [← hxx.out]; exact he''.out, hst⟩, ?_⟩
          simp [intOf]; omega
        · have hke : k = lb' := by omega
          subst hke
          rw [Nat.mod_eq_of_lt hbn] at he
          obtain ⟨j, hj⟩ : ∃ j, j = i + k := ⟨_, rfl⟩
          have hz : dg m j = 0 := dg_ge hm (by omega)
          have hset := uw_setC L m j c hc
          have hse := setC_eq m j c
          rw [hz, Nat.zero_mul, Nat.add_zero, hj, he] at hse
          have hfin : a % C ^ i * b + dg a i * b * C ^ i = a % C ^ (i + 1) * b := by
            rw [dg_split, Nat.add_mul, Nat.mul_right_comm]
          rw [hfin] at hse
          rw [hj, hse] at hset
          have W1 : IntKind.u32.wrap (c : Int) = (c : Int) := by rw [u32_wrap, Nat.mod_eq_of_lt hc]
          have J1 : (i : Int) + (k : Int) = (j : Int) := by omega
          have J2 : (0 : Int) ≤ (j : Int) := by omega
          have J3 : (j : Int) < (L : Int) := by omega
          have J4 : j < L := by omega
          have J5 : IntKind.i64.wrap (j : Int) = (j : Int) := by rw [IntKind.wrap_i64]; omega
          rw [← hj] at hset
          have hset' := Lib.hid hset
          have hkl' : ¬ ((k : Int) < (k : Int)) := by omega
          clear hset hse hfin hz he hm hc hj hmema hmemb hL2 hkl hk hbn han
          go_wp2_with ((first | (refine kc hst tc53 rfl ?_) | (refine ks hst tc53 rfl rfl ?_; clear hst; intro w hst; (try rw [hset'.out] at hst))); try simp only [pz, pn, sz, sc])
          refine ⟨⟨i + 1, by omega, by go_num, hst⟩, ?_⟩
          simp [intOf]; omega
    · have hie : i = la := by omega
      subst hie
      rw [Nat.mod_eq_of_lt han] at hst
      have hV : a * b < C ^ L := by
        refine Nat.lt_of_lt_of_le ?_ (Nat.pow_le_pow_right C_pos hL1)
        rw [Nat.pow_add]
        exact Nat.mul_lt_mul'' han hbn
      obtain ⟨hat, hbi⟩ := big_of_uw (E := 53) (L := [(b14, .cells (uw L (a * b)) 53 (0, 0))]) hV (by omega) hb14 (by simp)
      have htr := fun w hst => ref01_trim (some ⟨b14, 0, none⟩) L L (a * b) w (hat [] w hst)
      have hi1 : ¬ ((i : Int) < (i : Int)) := by omega
      clear hat hV hlt hi hmema hmemb han hbn
      go_wp2_with ((first | (refine kg gf49 hst (htr) rfl rfl rfl rfl ?_; clear hst; intro w hst) | (refine kc hst tc53 rfl ?_) | (refine ks hst tc53 rfl rfl ?_; clear hst; intro w hst)); try simp only [pz, pn, sz, sc])
      refine bp_t rfl rfl (by rfl) (PostB.of hst hbi (fun x h => h))

end Go.Proofs.YtmkeaedpfmblgaaGreat.Rd

namespace Go.Proofs.YtmkeaedpfmblgaaGreat.Rd
open Go Go.RowKit
set_option linter.unusedVariables false
set_option linter.unusedSimpArgs false
set_option maxRecDepth 100000

set_option maxHeartbeats 8000000 in
theorem ref01_Sub (va vb : Value) (la lb' a b : Nat) (w0 : World) (ha : BigAt w0 va la a) (hb : BigAt w0 vb lb' b) (hla : la ≤ 100000) (hab : b ≤ a) : GivesB Tryz.prog 35 #[va, vb] (a - b) w0 := by
  have hst := St.start [] w0
  have hda := fun (i : Nat) (hi : i ≤ 1000000) (w : World) (hst : Keeps [] w0 w) => ref01_digit va la a i hi w (ha.keep hst)
  have hdb := fun (i : Nat) (hi : i ≤ 1000000) (w : World) (hst : Keeps [] w0 w) => ref01_digit vb lb' b i hi w (hb.keep hst)
  obtain ⟨han, _, aa, capa, rfl, _, _⟩ := ha
  obtain ⟨hbn, _, ab, capb, rfl, _, _⟩ := hb
  go_enter Tryz.func35, Tryz.ntmps35
  go_wp2_with ((first | (refine wl_slice1 (o := ⟨some 28, _, _, _, _, _⟩) hst ts83 te53 rfl rfl (by (simp only [eval_lit, eval_k, eval_f, eval_g, List.getD_cons_succ, List.getD_cons_zero]) <;> rfl) (by rfl) ?_; clear hst; intro b28 w hb28 hst)); try simp only [pz, pn, sz, sc])
  go_loopw [7, 6, 5, 8] (fun vi vc vo vd wr => ∃ (i c s : Nat) (Lg : List (Nat × Obj)), i ≤ la ∧ vi = .int .i64 i ∧ vc = .int .u64 c ∧ c ≤ 1 ∧ s < C ^ i ∧ s + b % C ^ i = a % C ^ i + c * C ^ i ∧ GRow w0 Lg 53 1 vo i (uc i s) ∧ St w0 [] Lg wr) (fun vi _ _ _ _ => la - (intOf vi).toNat)
  case atStart => exact ⟨0, 0, 0, [], by omega, rfl, rfl, by omega, by simp, by simp [Nat.mod_one], GRow.nil _ _ _, hst⟩
  case round =>
    clear hst
    obtain ⟨i, c, s, Lg, hi, rfl, rfl, hc, hs, he, hgr, hst⟩ := hrel
    by_cases hlt : i < la
    · have hdai := hda i (by omega)
      have hdbi := hdb i (by omega)
      have hsa := dg_split a i
      have hsb := dg_split b i
      have hx := dg_lt a i
      have hy := dg_lt b i
      generalize dg a i = x at *
      generalize dg b i = y at *
      obtain ⟨t1, ht1⟩ : ∃ t1, t1 = x + C := ⟨_, rfl⟩
      obtain ⟨t2, ht2⟩ : ∃ t2, t2 = t1 - y := ⟨_, rfl⟩
      obtain ⟨t3, ht3⟩ : ∃ t3, t3 = t2 - c := ⟨_, rfl⟩
      obtain ⟨r, hr⟩ : ∃ r, r = t3 % C := ⟨_, rfl⟩
      obtain ⟨q, hq⟩ : ∃ q, q = t3 / C := ⟨_, rfl⟩
      have hrC : r < C := by rw [hr]; exact Nat.mod_lt _ C_pos
      have hsn := uc_snoc s r i hs hrC
      have hsl := add_lt_C s r i hs hrC
      have hqr : C * q + r = t3 := by rw [hq, hr]; exact Nat.div_add_mod _ _
      have hsum : r + y + c + q * C = x + C := by rw [Nat.mul_comm q]; rw [C_val] at *; omega
      rw [C_val] at hx hy hqr hrC hr hq ht1
      have hq1 : q ≤ 1 := by omega
      have F1 : IntKind.u64.wrap ((x : Int) + 4294967296) = (t1 : Int) := u64_wrap' _ t1 _ (by omega) (by rw [B_val]; omega)
      have F2 : IntKind.u64.wrap ((t1 : Int) - (y : Int)) = (t2 : Int) := u64_wrap' _ t2 _ (by omega) (by rw [B_val]; omega)
      have F2' : IntKind.u64.wrap ((t2 : Int) - (c : Int)) = (t3 : Int) := u64_wrap' _ t3 _ (by omega) (by rw [B_val]; omega)
      have F3 : IntKind.u32.wrap (t3 : Int) = (r : Int) := by rw [u32_wrap, C_val, hr]
      have F4 : (t3 : Int) / 4294967296 = (q : Int) := by omega
      have F5 : IntKind.u64.wrap (1 - (q : Int)) = ((1 - q : Nat) : Int) := u64_wrap' _ (1 - q) _ (by omega) (by rw [B_val]; omega)
      have he' : s + r * C ^ i + b % C ^ (i + 1) = a % C ^ (i + 1) + (1 - q) * C ^ (i + 1) := by
        rw [hsa, hsb]
        have e1 : (r + y + c + q * C) * C ^ i = (x + C) * C ^ i := by rw [hsum]
        rw [Nat.add_mul, Nat.add_mul, Nat.add_mul, Nat.add_mul] at e1
        have e2 : (1 - q) * C ^ (i + 1) + q * C * C ^ i = C * C ^ i := by
          rw [Nat.mul_assoc, ← Nat.pow_succ', ← Nat.add_mul, show 1 - q + q = 1 by omega, Nat.one_mul, Nat.pow_succ']
        omega
      have hsn' := Lib.hid hsn
      have he'' := Lib.hid he'
      have hi1 : (i : Int) < (la : Int) := by omega
      have hi2 : i ≤ 100000 := by omega
      clear he hsa hsb hx hy ht1 ht2 ht3 hr hq hqr hrC hsn he' hs hc hlt hi hsum
      go_wp2_with ((first | (refine kg gf50 hst (fun w hst => hdai w hst.keeps) rfl rfl rfl rfl ?_; clear hst; intro w hst) | (refine kg gf50 hst (fun w hst => hdbi w hst.keeps) rfl rfl rfl rfl ?_; clear hst; intro w hst) | (refine wl_append1 (bytes := 4) (o := ⟨some 29, _, _, _, _, _⟩) hgr hst ts83 te53 (show BytesT _ _ _ by unfold BytesT; kernel_rfl) rfl rfl (by rfl) (by rfl) (by repeat (first | exact Tl.here | apply Tl.there)) (by rfl) (by rfl) (by omega) (by omega) ?_; clear hst hgr; intro v29 Lg w hgr hst; (try simp only [List.cons_append, List.nil_append] at hst); (try simp only [pz, pn, sz, sc])) | (refine wl_slice1 (o := ⟨some 28, _, _, _, _, _⟩) hst ts83 te53 rfl rfl (by (simp only [eval_lit, eval_k, eval_f, eval_g, List.getD_cons_succ, List.getD_cons_zero]) <;> rfl) (by rfl) ?_; clear hst; intro b28 w hb28 hst)); try simp only [pz, pn, sz, sc])
      refine ⟨⟨i + 1, 1 - q, s + r * C ^ i, _, by omega, by go_num, rfl, by omega, hsl, he''.out, by rw [← hsn'.out]; exact hgr, hst⟩, ?_⟩
      simp [intOf]; omega
    · have hie : i = la := by omega
      subst hie
      rw [Nat.mod_eq_of_lt han, Nat.mod_eq_of_lt (Nat.lt_of_le_of_lt hab han)] at he
      have hc0 : c = 0 := by
        rcases Nat.eq_zero_or_pos c with h | h
        · exact h
        · have : 1 * C ^ i ≤ c * C ^ i := Nat.mul_le_mul_right _ h
          omega
      subst hc0
      rw [Nat.zero_mul, Nat.add_zero] at he
      obtain rfl : s = a - b := by omega
      obtain ⟨ao, co, rfl, hat, hbi⟩ := hgr.big (L := Lg) hs (by omega) (fun x h => h)
      have htr := fun w hst => ref01_trim ao i co (a - b) w (hat [] w hst)
      have hi1 : ¬ ((i : Int) < (i : Int)) := by omega
      clear hs hi hat he hab
      go_wp2_with ((first | (refine kg gf49 hst (htr) rfl rfl rfl rfl ?_; clear hst; intro w hst) | (refine wl_slice1 (o := ⟨some 28, _, _, _, _, _⟩) hst ts83 te53 rfl rfl (by (simp only [eval_lit, eval_k, eval_f, eval_g, List.getD_cons_succ, List.getD_cons_zero]) <;> rfl) (by rfl) ?_; clear hst; intro b28 w hb28 hst)); try simp only [pz, pn, sz, sc])
      refine bp_t rfl rfl (by rfl) (PostB.of hst hbi (fun x h => h))

end Go.Proofs.YtmkeaedpfmblgaaGreat.Rd
