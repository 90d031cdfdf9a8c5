/- A number rounded to a format (plain): by the program's road and by the reference's. -/
import Derived.Test.YtefpoconpeggpaaGreatDoorK17
import Derived.Test.YtefpoconpeggpaaGreatDoorK06
import Derived.Test.YtefpoconpeggpaaGreatDoorK10
namespace Go.Proofs.YtefpoconpeggpaaGreatDoor.Rd
open Go Go.RowKit
set_option linter.unusedVariables false
set_option linter.unusedSimpArgs false
set_option maxRecDepth 100000

theorem M_key {n : Nat} (h : n = 512) : M = 2 ^ n := by
  have key : ∀ t, M = 2 ^ t → t = 512 → M = 2 ^ n := fun t e1 e2 => by rw [e1, e2, h]
  exact key (64 * 8) (by rw [M_eq, show B = 2 ^ 64 from rfl, ← Nat.pow_mul]) rfl
theorem M_le_pow {n : Nat} (h : 512 ≤ n) : M ≤ 2 ^ n := by
  obtain ⟨k, hk⟩ : ∃ k, k = 512 := ⟨_, rfl⟩
  rw [M_key hk]
  exact Nat.pow_le_pow_right (by omega) (by omega)
theorem shr_clamp (sig n : Nat) (hs : sig < M) : sig / 2 ^ clampN (n : Int) = sig / 2 ^ n := by
  by_cases h : n ≤ 512
  · rw [clampN_nat _ h]
  · obtain ⟨k, hk⟩ : ∃ k, k = 512 := ⟨_, rfl⟩
    have e : clampN (n : Int) = k := by unfold clampN; rw [if_neg (by omega), if_pos (by omega), hk]
    rw [e, Nat.div_eq_of_lt (Nat.lt_of_lt_of_le hs (M_le_pow (by omega))), Nat.div_eq_of_lt (Nat.lt_of_lt_of_le hs (M_le_pow (by omega)))]

set_option maxHeartbeats 2000000 in
theorem mode_Rest_512 (sig n : Nat) (hs : sig < M) (hn : n = 512) (more : Bool) : Gives Tryz.prog 149 #[W sig, .int .i64 n, .bool more] (.int .i64 (restN sig n more : Nat)) := by
  intro w0
  have hst := St.start [] w0
  have hpM : 2 ^ (n - 1) < M := by rw [M_key hn]; exact Nat.pow_lt_pow_right (by omega) (by omega)
  have hpw := wide_Power ((n : Int) - 1)
  rw [show pow2 ((n : Int) - 1) = 2 ^ (n - 1) by unfold pow2; rw [if_pos (by omega)]; congr 1; omega] at hpw
  have hcmp := wide_Cmp sig (2 ^ (n - 1)) hs hpM
  have hp0 : 0 < 2 ^ (n - 1) := Nat.pow_pos (by omega)
  have hM := M_pos
  have n0 : ¬ (n : Int) ≤ 0 := by omega
  have n5 : ¬ (n : Int) < 512 := by omega
  have n6 : ¬ (512 : Int) < (n : Int) := by omega
  have hW1 : IntKind.i64.wrap ((n : Int) - 1) = (n : Int) - 1 := by rw [IntKind.wrap_i64]; omega
  rw [restN_of sig n more (by omega), Nat.mod_eq_of_lt (show sig < 2 ^ n by rw [← M_key hn]; exact hs)]
  clear hpM hn
  generalize 2 ^ (n - 1) = p at *
  rcases Nat.lt_trichotomy sig p with hx | hx | hx
  · rw [show cmp sig p = -1 by unfold cmp; rw [if_pos hx]] at hcmp
    cases more
    · by_cases hx0 : sig = 0
      · rw [if_pos ⟨hx0, rfl⟩]
        have Q0 : decide (sig = 0) = true := by simpa using hx0
        clear hx hx0
        go_enter Tryz.func149, Tryz.ntmps149
        go_wp2_with ((first | (refine kb 3 hst rfl rfl ?_; clear hst; intro b3 w hb3 hst) | (refine kl hst ta44 rfl ?_) | (refine ka 7 hst tz44 rfl rfl ?_; clear hst; intro b7 w hb7 hst) | (refine kt hst ta44 rfl rfl ?_; clear hst; intro w hst)); try simp only [pz, pn, sz, sc])
        refine wp_region_T 6  hst (by kernel_rfl) ?_; clear hst; intro w hst; (try simp only [List.length_cons, List.length_nil, Nat.reduceAdd, Array.replicate_succ, Array.replicate_zero, List.push_toArray, List.nil_append, List.cons_append])
        refine r0 1 ?_; simp only [pz, pn, sz, sc, hW1]
        refine r0 2 ?_; simp only [pz, pn, sz, sc, hW1]
        refine rl 0 rfl ?_ (by first | exact ylA ta44 | exact ylM ta44); simp only [pz, pn, sz, sc, hW1]
        refine r1 3 ?_; (refine kf gf127 hst (hpw) rfl rfl rfl rfl ?_; clear hst; intro w hst); (try simp only [pz, pn, sz, sc, hW1]); refine re ?_
        refine r1 4 ?_; (refine kf gf166 hst (hcmp) rfl rfl rfl rfl ?_; clear hst; intro w hst); (try simp only [pz, pn, sz, sc, hW1]); refine re ?_
        refine r0 5 ?_; simp only [pz, pn, sz, sc, hW1]
        refine rd_ ?_
        all_goals
          go_wp2_with ((first | (refine wl_guard (by rfl) ?_) | (refine kl hst ta44 rfl ?_) | (refine kn tr44 tc22 rfl ?_)); try simp only [pz, pn, sz, sc])
          refine bp_t rfl rfl (by rfl) ⟨?_, hst.keeps⟩
          rfl
      · rw [if_neg (by simp [hx0]), if_pos hx]
        have Q0 : decide (sig = 0) = false := by simpa using hx0
        clear hx hx0
        go_enter Tryz.func149, Tryz.ntmps149
        go_wp2_with ((first | (refine kb 3 hst rfl rfl ?_; clear hst; intro b3 w hb3 hst) | (refine kl hst ta44 rfl ?_) | (refine ka 7 hst tz44 rfl rfl ?_; clear hst; intro b7 w hb7 hst) | (refine kt hst ta44 rfl rfl ?_; clear hst; intro w hst)); try simp only [pz, pn, sz, sc])
        refine wp_region_T 6  hst (by kernel_rfl) ?_; clear hst; intro w hst; (try simp only [List.length_cons, List.length_nil, Nat.reduceAdd, Array.replicate_succ, Array.replicate_zero, List.push_toArray, List.nil_append, List.cons_append])
        refine r0 1 ?_; simp only [pz, pn, sz, sc, hW1]
        refine r0 2 ?_; simp only [pz, pn, sz, sc, hW1]
        refine rl 0 rfl ?_ (by first | exact ylA ta44 | exact ylM ta44); simp only [pz, pn, sz, sc, hW1]
        refine r1 3 ?_; (refine kf gf127 hst (hpw) rfl rfl rfl rfl ?_; clear hst; intro w hst); (try simp only [pz, pn, sz, sc, hW1]); refine re ?_
        refine r1 4 ?_; (refine kf gf166 hst (hcmp) rfl rfl rfl rfl ?_; clear hst; intro w hst); (try simp only [pz, pn, sz, sc, hW1]); refine re ?_
        refine r0 5 ?_; simp only [pz, pn, sz, sc, hW1]
        refine rd_ ?_
        all_goals
          go_wp2_with ((first | (refine wl_guard (by rfl) ?_) | (refine kl hst ta44 rfl ?_) | (refine kn tr44 tc22 rfl ?_)); try simp only [pz, pn, sz, sc])
          refine bp_t rfl rfl (by rfl) ⟨?_, hst.keeps⟩
          rfl
    · rw [if_neg (by simp), if_pos hx]
      clear hx
      go_enter Tryz.func149, Tryz.ntmps149
      go_wp2_with ((first | (refine kb 3 hst rfl rfl ?_; clear hst; intro b3 w hb3 hst) | (refine kl hst ta44 rfl ?_) | (refine ka 7 hst tz44 rfl rfl ?_; clear hst; intro b7 w hb7 hst) | (refine kt hst ta44 rfl rfl ?_; clear hst; intro w hst)); try simp only [pz, pn, sz, sc])
      refine wp_region_T 6  hst (by kernel_rfl) ?_; clear hst; intro w hst; (try simp only [List.length_cons, List.length_nil, Nat.reduceAdd, Array.replicate_succ, Array.replicate_zero, List.push_toArray, List.nil_append, List.cons_append])
      refine r0 1 ?_; simp only [pz, pn, sz, sc, hW1]
      refine r0 2 ?_; simp only [pz, pn, sz, sc, hW1]
      refine rl 0 rfl ?_ (by first | exact ylA ta44 | exact ylM ta44); simp only [pz, pn, sz, sc, hW1]
      refine r1 3 ?_; (refine kf gf127 hst (hpw) rfl rfl rfl rfl ?_; clear hst; intro w hst); (try simp only [pz, pn, sz, sc, hW1]); refine re ?_
      refine r1 4 ?_; (refine kf gf166 hst (hcmp) rfl rfl rfl rfl ?_; clear hst; intro w hst); (try simp only [pz, pn, sz, sc, hW1]); refine re ?_
      refine r0 5 ?_; simp only [pz, pn, sz, sc, hW1]
      refine rd_ ?_
      all_goals
        go_wp2_with ((first | (refine wl_guard (by rfl) ?_)); try simp only [pz, pn, sz, sc])
        refine bp_t rfl rfl (by rfl) ⟨?_, hst.keeps⟩
        rfl
  · subst hx
    rw [show cmp sig sig = 0 by unfold cmp; rw [if_neg (by omega), if_neg (by omega)]] at hcmp
    have h0 : sig ≠ 0 := by omega
    clear hp0
    cases more
    · rw [if_neg (by simp [h0]), if_neg (by omega), if_pos ⟨rfl, rfl⟩]
      clear h0
      go_enter Tryz.func149, Tryz.ntmps149
      go_wp2_with ((first | (refine kb 3 hst rfl rfl ?_; clear hst; intro b3 w hb3 hst) | (refine kl hst ta44 rfl ?_) | (refine ka 7 hst tz44 rfl rfl ?_; clear hst; intro b7 w hb7 hst) | (refine kt hst ta44 rfl rfl ?_; clear hst; intro w hst)); try simp only [pz, pn, sz, sc])
      refine wp_region_T 6  hst (by kernel_rfl) ?_; clear hst; intro w hst; (try simp only [List.length_cons, List.length_nil, Nat.reduceAdd, Array.replicate_succ, Array.replicate_zero, List.push_toArray, List.nil_append, List.cons_append])
      refine r0 1 ?_; simp only [pz, pn, sz, sc, hW1]
      refine r0 2 ?_; simp only [pz, pn, sz, sc, hW1]
      refine rl 0 rfl ?_ (by first | exact ylA ta44 | exact ylM ta44); simp only [pz, pn, sz, sc, hW1]
      refine r1 3 ?_; (refine kf gf127 hst (hpw) rfl rfl rfl rfl ?_; clear hst; intro w hst); (try simp only [pz, pn, sz, sc, hW1]); refine re ?_
      refine r1 4 ?_; (refine kf gf166 hst (hcmp) rfl rfl rfl rfl ?_; clear hst; intro w hst); (try simp only [pz, pn, sz, sc, hW1]); refine re ?_
      refine r0 5 ?_; simp only [pz, pn, sz, sc, hW1]
      refine rd_ ?_
      all_goals
        go_wp2_with ((first | (refine wl_guard (by rfl) ?_)); try simp only [pz, pn, sz, sc])
        refine bp_t rfl rfl (by rfl) ⟨?_, hst.keeps⟩
        rfl
    · rw [if_neg (by simp), if_neg (by omega), if_neg (by simp)]
      clear h0
      go_enter Tryz.func149, Tryz.ntmps149
      go_wp2_with ((first | (refine kb 3 hst rfl rfl ?_; clear hst; intro b3 w hb3 hst) | (refine kl hst ta44 rfl ?_) | (refine ka 7 hst tz44 rfl rfl ?_; clear hst; intro b7 w hb7 hst) | (refine kt hst ta44 rfl rfl ?_; clear hst; intro w hst)); try simp only [pz, pn, sz, sc])
      refine wp_region_T 6  hst (by kernel_rfl) ?_; clear hst; intro w hst; (try simp only [List.length_cons, List.length_nil, Nat.reduceAdd, Array.replicate_succ, Array.replicate_zero, List.push_toArray, List.nil_append, List.cons_append])
      refine r0 1 ?_; simp only [pz, pn, sz, sc, hW1]
      refine r0 2 ?_; simp only [pz, pn, sz, sc, hW1]
      refine rl 0 rfl ?_ (by first | exact ylA ta44 | exact ylM ta44); simp only [pz, pn, sz, sc, hW1]
      refine r1 3 ?_; (refine kf gf127 hst (hpw) rfl rfl rfl rfl ?_; clear hst; intro w hst); (try simp only [pz, pn, sz, sc, hW1]); refine re ?_
      refine r1 4 ?_; (refine kf gf166 hst (hcmp) rfl rfl rfl rfl ?_; clear hst; intro w hst); (try simp only [pz, pn, sz, sc, hW1]); refine re ?_
      refine r0 5 ?_; simp only [pz, pn, sz, sc, hW1]
      refine rd_ ?_
      all_goals
        go_wp2_with ((first | (refine wl_guard (by rfl) ?_)); try simp only [pz, pn, sz, sc])
        refine bp_t rfl rfl (by rfl) ⟨?_, hst.keeps⟩
        rfl
  · rw [show cmp sig p = 1 by unfold cmp; rw [if_neg (by omega), if_pos hx]] at hcmp
    rw [if_neg (by omega), if_neg (by omega), if_neg (by omega)]
    clear hx
    go_enter Tryz.func149, Tryz.ntmps149
    go_wp2_with ((first | (refine kb 3 hst rfl rfl ?_; clear hst; intro b3 w hb3 hst) | (refine kl hst ta44 rfl ?_) | (refine ka 7 hst tz44 rfl rfl ?_; clear hst; intro b7 w hb7 hst) | (refine kt hst ta44 rfl rfl ?_; clear hst; intro w hst)); try simp only [pz, pn, sz, sc])
    refine wp_region_T 6  hst (by kernel_rfl) ?_; clear hst; intro w hst; (try simp only [List.length_cons, List.length_nil, Nat.reduceAdd, Array.replicate_succ, Array.replicate_zero, List.push_toArray, List.nil_append, List.cons_append])
    refine r0 1 ?_; simp only [pz, pn, sz, sc, hW1]
    refine r0 2 ?_; simp only [pz, pn, sz, sc, hW1]
    refine rl 0 rfl ?_ (by first | exact ylA ta44 | exact ylM ta44); simp only [pz, pn, sz, sc, hW1]
    refine r1 3 ?_; (refine kf gf127 hst (hpw) rfl rfl rfl rfl ?_; clear hst; intro w hst); (try simp only [pz, pn, sz, sc, hW1]); refine re ?_
    refine r1 4 ?_; (refine kf gf166 hst (hcmp) rfl rfl rfl rfl ?_; clear hst; intro w hst); (try simp only [pz, pn, sz, sc, hW1]); refine re ?_
    refine r0 5 ?_; simp only [pz, pn, sz, sc, hW1]
    refine rd_ ?_
    all_goals
      go_wp2_with fail
      refine bp_t rfl rfl (by rfl) ⟨?_, hst.keeps⟩
      rfl

theorem mode_Rest_hi (sig n : Nat) (hs : sig < M) (h1 : 512 < n) (h2 : n ≤ 8000000) (more : Bool) : Gives Tryz.prog 149 #[W sig, .int .i64 n, .bool more] (.int .i64 (restN sig n more : Nat)) := by
  intro w0
  have hst := St.start [] w0
  have n0 : ¬ (n : Int) ≤ 0 := by omega
  have n5 : ¬ (n : Int) < 512 := by omega
  have n6 : (512 : Int) < (n : Int) := by omega
  have hM := M_pos
  have hlt : sig < 2 ^ (n - 1) := Nat.lt_of_lt_of_le hs (M_le_pow (by omega))
  rw [restN_of sig n more (by omega), Nat.mod_eq_of_lt (Nat.lt_of_lt_of_le hs (M_le_pow (by omega)))]
  cases more
  · by_cases hx0 : sig = 0
    · rw [if_pos ⟨hx0, rfl⟩]
      have Q0 : decide (sig = 0) = true := by simpa using hx0
      clear hlt hx0 h1 h2
      go_enter Tryz.func149, Tryz.ntmps149
      go_wp2_with ((first | (refine wl_guard (by rfl) ?_) | (refine kb 3 hst rfl rfl ?_; clear hst; intro b3 w hb3 hst) | (refine kl hst ta44 rfl ?_) | (refine ka 7 hst tz44 rfl rfl ?_; clear hst; intro b7 w hb7 hst) | (refine kt hst ta44 rfl rfl ?_; clear hst; intro w hst) | (refine kn tr44 tc22 rfl ?_)); try simp only [pz, pn, sz, sc])
      refine bp_t rfl rfl (by rfl) ⟨?_, hst.keeps⟩
      rfl
    · rw [if_neg (by simp [hx0]), if_pos hlt]
      have Q0 : decide (sig = 0) = false := by simpa using hx0
      clear hlt hx0 h1 h2
      go_enter Tryz.func149, Tryz.ntmps149
      go_wp2_with ((first | (refine wl_guard (by rfl) ?_) | (refine kb 3 hst rfl rfl ?_; clear hst; intro b3 w hb3 hst) | (refine kl hst ta44 rfl ?_) | (refine ka 7 hst tz44 rfl rfl ?_; clear hst; intro b7 w hb7 hst) | (refine kt hst ta44 rfl rfl ?_; clear hst; intro w hst) | (refine kn tr44 tc22 rfl ?_)); try simp only [pz, pn, sz, sc])
      refine bp_t rfl rfl (by rfl) ⟨?_, hst.keeps⟩
      rfl
  · rw [if_neg (by simp), if_pos hlt]
    clear hlt h1 h2
    go_enter Tryz.func149, Tryz.ntmps149
    go_wp2_with ((first | (refine kb 3 hst rfl rfl ?_; clear hst; intro b3 w hb3 hst) | (refine kl hst ta44 rfl ?_) | (refine ka 7 hst tz44 rfl rfl ?_; clear hst; intro b7 w hb7 hst) | (refine kt hst ta44 rfl rfl ?_; clear hst; intro w hst)); try simp only [pz, pn, sz, sc])
    refine bp_t rfl rfl (by rfl) ⟨?_, hst.keeps⟩
    rfl

theorem mode_Rest_all (sig n : Nat) (hs : sig < M) (h1 : 1 ≤ n) (h2 : n ≤ 8000000) (more : Bool) : Gives Tryz.prog 149 #[W sig, .int .i64 n, .bool more] (.int .i64 (restN sig n more : Nat)) := by
  rcases Nat.lt_trichotomy n 512 with h | h | h
  · exact mode_Rest sig n hs h1 h more
  · exact mode_Rest_512 sig n hs h more
  · exact mode_Rest_hi sig n hs h h2 more

set_option maxHeartbeats 4000000 in
theorem mode_Cut_all (sig n : Nat) (hs : sig < M) (h1 : 1 ≤ n) (h2 : n ≤ 8000000) (more : Bool) (m : Nat) (m1 : 1 ≤ m) (m5 : m ≤ 5) (ng : Bool) : Gives Tryz.prog 121 #[W sig, .int .i64 n, .bool more, .int .i64 m, .bool ng] (.tuple #[W (cutN sig n more m ng), .bool (decide (restN sig n more ≠ 0))]) := by
  intro w0
  have hst := St.start [] w0
  have his := mode_Is_yes m (by omega) (by omega)
  have hrest := mode_Rest_all sig n hs h1 h2 more
  have hshr := wide_Shr sig (n : Nat) hs
  rw [shr_clamp sig n hs] at hshr
  have hoM : sig / 2 ^ n < M := Nat.lt_of_le_of_lt (Nat.div_le_self _ _) hs
  have hbit := wide_Bit (sig / 2 ^ n) 0 hoM (by omega)
  rw [Nat.testBit_zero, show ((0 : Nat) : Int) = 0 from rfl] at hbit
  have hgr := mode_Grows m m1 m5 ng (decide (sig / 2 ^ n % 2 = 1)) (restN sig n more) (restN_le _ _ _)
  have hof := of_u64 1 (by decide)
  have h1' := Lib.hid (wc_1 1 (by decide))
  have h1M : 1 < M := small_M (by decide)
  have hadd := wide_Add (sig / 2 ^ n) 1 hoM h1M
  have hlt : sig / 2 ^ n + 1 < M := by
    have : sig / 2 ^ n ≤ sig / 2 := Nat.div_le_div_left (Nat.le_trans (by decide : 2 ≤ 2 ^ 1) (Nat.pow_le_pow_right (by omega) h1)) (by omega)
    omega
  rw [Nat.mod_eq_of_lt hlt] at hadd
  unfold cutN
  have hne : decide (restN sig n more ≠ 0) = ((restN sig n more : Int) != 0) := by
    by_cases h : restN sig n more = 0
    · rw [h]; rfl
    · have q : ((restN sig n more : Int) != 0) = true := by simp; omega
      rw [q]; simpa using h
  rw [hne]
  clear hne hlt hoM hs h1 h2 m1 m5 h1M
  generalize decide (sig / 2 ^ n % 2 = 1) = odd at *
  generalize growsB m ng odd (restN sig n more) = gb at *
  generalize sig / 2 ^ n = o at *
  generalize restN sig n more = rs at *
  cases gb
  · rw [if_neg (by simp), Nat.add_zero]
    go_enter Tryz.func121, Tryz.ntmps121
    go_wp2_with ((first | (refine kf gf62 hst (his) rfl rfl rfl rfl ?_; clear hst; intro w hst) | (refine kf gf149 hst (hrest) rfl rfl rfl rfl ?_; clear hst; intro w hst) | (refine kf gf87 hst (hshr) rfl rfl rfl rfl ?_; clear hst; intro w hst) | (refine kf gf86 hst (hbit) rfl rfl rfl rfl ?_; clear hst; intro w hst) | (refine kf gf118 hst (hgr) rfl rfl rfl rfl ?_; clear hst; intro w hst) | (refine kb 5 hst rfl rfl ?_; clear hst; intro b5 w hb5 hst) | (refine ka 10 hst tz44 rfl rfl ?_; clear hst; intro b10 w hb10 hst) | (refine kt hst ta44 rfl rfl ?_; clear hst; intro w hst) | (refine kl hst ta44 rfl ?_) | (refine ka 13 hst tz44 rfl rfl ?_; clear hst; intro b13 w hb13 hst)); try simp only [pz, pn, sz, sc])
    refine bp_ct rfl rfl (la hst ta44) (by rfl) ⟨?_, hst.keeps⟩
    rfl
  · rw [if_pos rfl]
    go_enter Tryz.func121, Tryz.ntmps121
    go_wp2_with ((first | (refine kf gf62 hst (his) rfl rfl rfl rfl ?_; clear hst; intro w hst) | (refine kf gf149 hst (hrest) rfl rfl rfl rfl ?_; clear hst; intro w hst) | (refine kf gf87 hst (hshr) rfl rfl rfl rfl ?_; clear hst; intro w hst) | (refine kf gf86 hst (hbit) rfl rfl rfl rfl ?_; clear hst; intro w hst) | (refine kf gf118 hst (hgr) rfl rfl rfl rfl ?_; clear hst; intro w hst) | (refine kb 5 hst rfl rfl ?_; clear hst; intro b5 w hb5 hst) | (refine ka 10 hst tz44 rfl rfl ?_; clear hst; intro b10 w hb10 hst) | (refine kt hst ta44 rfl rfl ?_; clear hst; intro w hst) | (refine kl hst ta44 rfl ?_) | (refine ka 13 hst tz44 rfl rfl ?_; clear hst; intro b13 w hb13 hst)); try simp only [pz, pn, sz, sc])
    refine wp_region_T 7  hst (by kernel_rfl) ?_; clear hst; intro w hst; (try simp only [List.length_cons, List.length_nil, Nat.reduceAdd, Array.replicate_succ, Array.replicate_zero, List.push_toArray, List.nil_append, List.cons_append])
    refine rl 0 rfl ?_ (by first | exact ylA ta44 | exact ylM ta44); simp only [pz, pn, sz, sc]
    refine r1 1 ?_; (refine wl_slice1 (o := ⟨some 37, _, _, _, _, _⟩) hst ts123 te22 rfl rfl (by (simp only [eval_lit, eval_k, eval_f, eval_g, List.getD_cons_succ, List.getD_cons_zero]) <;> rfl) (by rfl) ?_; clear hst; intro b37 w hb37 hst); (try simp only [pz, pn, sz, sc]); refine re ?_
    refine r1 2 ?_; (refine kg gf131 hst (fun w hst => hof _ w (by rw [← h1'.out]; exact hst.own _ _ (by repeat (first | exact List.Mem.head _ | refine List.Mem.tail _ ?_)))) rfl rfl rfl rfl ?_; clear hst; intro w hst); (try simp only [pz, pn, sz, sc]); refine re ?_
    refine r1 3 ?_; (refine kf gf104 hst (hadd) rfl rfl rfl rfl ?_; clear hst; intro w hst); (try simp only [pz, pn, sz, sc]); refine re ?_
    refine r0 4 ?_; simp only [pz, pn, sz, sc]
    refine r0 5 ?_; simp only [pz, pn, sz, sc]
    refine r0 6 ?_; simp only [pz, pn, sz, sc]
    refine r1 7 ?_; (refine kt hst ta44 rfl rfl ?_; clear hst; intro w hst); (try simp only [pz, pn, sz, sc]); refine re ?_
    refine rd_ ?_
    all_goals
      go_wp2_with ((first | (refine kt hst ta44 rfl rfl ?_; clear hst; intro w hst) | (refine kl hst ta44 rfl ?_)); try simp only [pz, pn, sz, sc])
      refine bp_ct rfl rfl (la hst ta44) (by rfl) ⟨?_, hst.keeps⟩
      rfl

end Go.Proofs.YtefpoconpeggpaaGreatDoor.Rd

namespace Go.Proofs.YtefpoconpeggpaaGreatDoor.Rd
set_option linter.unusedVariables false

theorem bl_mul_pow (a x : Nat) (h : a ≠ 0) : bl (a * 2 ^ x) = bl a + x := by
  have h1 := (bl_spec a).1
  have h2 := bl_lo h
  have h3 := bl_pos h
  obtain ⟨k, hk⟩ : ∃ k, bl a = k + 1 := ⟨bl a - 1, by omega⟩
  rw [hk] at h1 h2 ⊢
  rw [Nat.add_sub_cancel] at h2
  have hp : 0 < 2 ^ x := Nat.pow_pos (by omega)
  rw [show k + 1 + x = (k + x) + 1 by omega]
  apply bl_range
  · rw [Nat.pow_add]; exact Nat.mul_le_mul_right _ h2
  · rw [show k + x + 1 = (k + 1) + x by omega, Nat.pow_add]; exact Nat.mul_lt_mul_of_pos_right h1 hp

/-- a times 2^ea against b times 2^eb, without signs: below 0, 0, above 0. -/
def szC (a : Nat) (ea : Int) (b : Nat) (eb : Int) : Int :=
  if bl a = 0 ∨ bl b = 0 then min (bl a : Int) 1 - min (bl b : Int) 1
  else if ea + bl a ≠ eb + bl b then ea + bl a - eb - bl b
  else if a * 2 ^ (ea - min ea eb).toNat < b * 2 ^ (eb - min ea eb).toNat then -1 else if b * 2 ^ (eb - min ea eb).toNat < a * 2 ^ (ea - min ea eb).toNat then 1 else 0

theorem lt_of_bl {a b : Nat} (h : bl a < bl b) : a < b := by
  have h1 := (bl_spec a).1
  have hb : b ≠ 0 := fun e => by rw [e, bl_zero] at h; omega
  have h2 := bl_lo hb
  have h3 : 2 ^ bl a ≤ 2 ^ (bl b - 1) := Nat.pow_le_pow_right (by omega) (by omega)
  omega
theorem szC_sign (a : Nat) (ea : Int) (b : Nat) (eb : Int) :
    (szC a ea b eb < 0 ↔ a * 2 ^ (ea - min ea eb).toNat < b * 2 ^ (eb - min ea eb).toNat) ∧ (szC a ea b eb = 0 ↔ a * 2 ^ (ea - min ea eb).toNat = b * 2 ^ (eb - min ea eb).toNat) := by
  have hpa : 0 < 2 ^ (ea - min ea eb).toNat := Nat.pow_pos (by omega)
  have hpb : 0 < 2 ^ (eb - min ea eb).toNat := Nat.pow_pos (by omega)
  unfold szC
  by_cases ha : a = 0
  · subst ha
    rw [bl_zero, if_pos (.inl rfl), Nat.zero_mul]
    by_cases hb : b = 0
    · subst hb; rw [bl_zero, Nat.zero_mul]; simp
    · have h1 := bl_pos hb
      have h2 : 0 < b * 2 ^ (eb - min ea eb).toNat := Nat.mul_pos (by omega) hpb
      constructor <;> constructor <;> intro h <;> omega
  · have h1 := bl_pos ha
    by_cases hb : b = 0
    · subst hb
      rw [bl_zero, if_pos (.inr rfl), Nat.zero_mul]
      have h2 : 0 < a * 2 ^ (ea - min ea eb).toNat := Nat.mul_pos (by omega) hpa
      constructor <;> constructor <;> intro h <;> omega
    · have h2 := bl_pos hb
      rw [if_neg (by omega)]
      by_cases hd : ea + bl a ≠ eb + bl b
      · rw [if_pos hd]
        have e1 := bl_mul_pow a (ea - min ea eb).toNat ha
        have e2 := bl_mul_pow b (eb - min ea eb).toNat hb
        rcases Int.lt_or_lt_of_ne hd with h | h
        · have := lt_of_bl (a := a * 2 ^ (ea - min ea eb).toNat) (b := b * 2 ^ (eb - min ea eb).toNat) (by rw [e1, e2]; omega)
          constructor <;> constructor <;> intro h' <;> omega
        · have := lt_of_bl (a := b * 2 ^ (eb - min ea eb).toNat) (b := a * 2 ^ (ea - min ea eb).toNat) (by rw [e1, e2]; omega)
          constructor <;> constructor <;> intro h' <;> omega
      · rw [if_neg hd]
        split
        · constructor <;> constructor <;> intro h' <;> omega
        · split
          · constructor <;> constructor <;> intro h' <;> omega
          · constructor <;> constructor <;> intro h' <;> omega

/-- The same at any exponent that isn't above. -/
theorem scale_lt (a b : Nat) (ea eb l : Int) (h1 : l ≤ ea) (h2 : l ≤ eb) : (a * 2 ^ (ea - min ea eb).toNat < b * 2 ^ (eb - min ea eb).toNat ↔ a * 2 ^ (ea - l).toNat < b * 2 ^ (eb - l).toNat) ∧ (a * 2 ^ (ea - min ea eb).toNat = b * 2 ^ (eb - min ea eb).toNat ↔ a * 2 ^ (ea - l).toNat = b * 2 ^ (eb - l).toNat) := by
  obtain ⟨x, hx⟩ : ∃ x, x = (min ea eb - l).toNat := ⟨_, rfl⟩
  have e1 : (ea - l).toNat = (ea - min ea eb).toNat + x := by omega
  have e2 : (eb - l).toNat = (eb - min ea eb).toNat + x := by omega
  rw [e1, e2, Nat.pow_add, Nat.pow_add, ← Nat.mul_assoc, ← Nat.mul_assoc]
  have hp : 0 < 2 ^ x := Nat.pow_pos (by omega)
  generalize a * 2 ^ (ea - min ea eb).toNat = u
  generalize b * 2 ^ (eb - min ea eb).toNat = v
  exact ⟨(Nat.mul_lt_mul_right hp).symm, ⟨fun h => by rw [h], fun h => Nat.eq_of_mul_eq_mul_right hp h⟩⟩

end Go.Proofs.YtefpoconpeggpaaGreatDoor.Rd

namespace Go.Proofs.YtefpoconpeggpaaGreatDoor.Rd
set_option linter.unusedVariables false

/-- The word of a sign, a field and a significand. -/
def encW (f : Nat) (neg : Bool) (j s : Nat) : Nat := wEnc f j s + (if neg then 2 ^ (fB f - 1) else 0)
/-- The word, and the flags, of what overflows: infinite, or the greatest one. -/
def overW (f m : Nat) (neg : Bool) : Nat := (if m = 1 ∨ m = 2 ∨ growsB m neg false 3 = true then (2 * fE f + 1) * 2 ^ (fP f - 1) else (2 * fE f + 1) * 2 ^ (fP f - 1) - 1) + (if neg then 2 ^ (fB f - 1) else 0)
/-- Rounded by the reference's road: of a number with more digits than the precision. -/
def rndR (f m : Nat) (neg : Bool) (e : Int) (r : Nat) (s : Bool) : Nat × Nat :=
  if (fE f : Int) < e + bl r - fP f + bl (cutN r (bl r - fP f) s m neg) - 1 then (overW f m neg, 20)
  else if e + bl r - fP f + bl (cutN r (bl r - fP f) s m neg) - 1 < 1 - (fE f : Int) then
    (encW f neg 0 (cutN r (2 - (fE f : Int) - fP f - e).toNat s m neg), if restN r (2 - (fE f : Int) - fP f - e).toNat s = 0 then 0 else 24)
  else (encW f neg (e + bl r - fP f + bl (cutN r (bl r - fP f) s m neg) - 1 - (1 - (fE f : Int))).toNat (cutN r (bl r - fP f) s m neg * 2 ^ fP f / 2 ^ bl (cutN r (bl r - fP f) s m neg)), if restN r (bl r - fP f) s = 0 then 0 else 16)

/-- A number rounded to p digits, as the program keeps it: its digits, their place, whether that isn't just it. -/
def rDig (p m : Nat) (neg : Bool) (e : Int) (r : Nat) (s : Bool) : Nat × Int × Bool := if bl r ≤ p then (r, e, s) else (cutN r (bl r - p) s m neg, e + (bl r - p : Nat), decide (restN r (bl r - p) s ≠ 0))
/-- A number rounded at a place. -/
def rAt (place : Int) (m : Nat) (neg : Bool) (e : Int) (r : Nat) (s : Bool) : Nat × Bool := if place - e ≤ 0 then (r * 2 ^ (e - place).toNat, s) else (cutN r (place - e).toNat s m neg, decide (restN r (place - e).toNat s ≠ 0))
/-- Rounded by the program's road. -/
def rndP (f m : Nat) (neg : Bool) (e : Int) (r : Nat) (s : Bool) : Nat × Nat :=
  let d := rDig (fP f) m neg e r s
  let top : Int := d.2.1 + bl d.1 - 1
  if (fE f : Int) < top then (overW f m neg, 20)
  else if top < 1 - (fE f : Int) then
    let c := rAt (1 - (fE f : Int) - fP f + 1) m neg e r s
    (encW f neg 0 c.1, if c.2 then 24 else 0)
  else (encW f neg (top - (1 - (fE f : Int))).toNat (d.1 * 2 ^ fP f / 2 ^ bl d.1), if d.2.2 then 16 else 0)

end Go.Proofs.YtefpoconpeggpaaGreatDoor.Rd
