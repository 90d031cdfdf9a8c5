/- What the layer fly answers: digits of either sign, converted on the fly. -/
import Derived.Test.YtggchelniblipaaGreatJ10
import Derived.Test.YtggchelniblipaaGreatJ16
namespace Go.Proofs.YtggchelniblipaaGreat.Rd
open Go Go.RowKit
set_option linter.unusedVariables false
set_option linter.unusedSimpArgs false
set_option maxRecDepth 100000

/-- Four times a number, and two bits. -/
def jn (a b : Nat) : Nat := a * 4 % M + b
theorem M_four : M = B ^ 7 * (2 ^ 62) * 4 := by
  rw [M_eq, Nat.pow_succ, Nat.mul_assoc, show 2 ^ 62 * 4 = B from rfl]
theorem jn_four (a : Nat) : ∃ y, a * 4 % M = 4 * y ∧ 4 * y + 4 ≤ M := by
  refine ⟨a % (B ^ 7 * 2 ^ 62), ?_, ?_⟩
  · rw [M_four, Nat.mul_mod_mul_right, Nat.mul_comm]
  · have h := Nat.mod_lt a (show 0 < B ^ 7 * 2 ^ 62 from Nat.mul_pos (Bp_pos 7) (by decide))
    rw [M_four]
    omega
theorem jn_lt (a b : Nat) (hb : b < 4) : jn a b < M := by
  obtain ⟨y, h1, h2⟩ := jn_four a
  unfold jn
  omega
theorem lb_or (y b : Nat) (hb : b < 4) : lb (4 * y) 0 ||| b = lb (4 * y) 0 + b ∧ lb (4 * y) 0 + b < B := by
  rw [lb_zero]
  have e : 4 * y % B = 2 ^ 2 * (y % 2 ^ 62) := by rw [show B = 4 * 2 ^ 62 from rfl, Nat.mul_mod_mul_left]
  rw [e, ← Nat.two_pow_add_eq_or_of_lt (show b < 2 ^ 2 from hb)]
  have := Nat.mod_lt y (show 0 < 2 ^ 62 by decide)
  exact ⟨rfl, by rw [B_val]; omega⟩
theorem jn_set (a b : Nat) (hb : b < 4) : (wc 8 (a * 4 % M)).setIfInBounds 0 (.int .u64 ((lb (a * 4 % M) 0 + b : Nat) : Int)) = wc 8 (jn a b) := by
  obtain ⟨y, h1, h2⟩ := jn_four a
  obtain ⟨h3, h4⟩ := lb_or y b hb
  unfold jn
  rw [h1]
  rw [wc_setL 8 _ 0 _ h4]
  have := setL_eq (4 * y) 0 (lb (4 * y) 0 + b)
  rw [Nat.pow_zero, Nat.mul_one, Nat.mul_one] at this
  congr 1
  omega

theorem fly_join (a b : Nat) (ha : a < M) (hb : b < 4) : Gives Tryz.prog 133 #[W a, .int .i64 b] (W (jn a b)) := by
  intro w0
  have hst := St.start [] w0
  have h1 := wide_Shl a 2 ha
  rw [show clampN 2 = 2 from rfl, show 2 ^ 2 = 4 from rfl] at h1
  have hset0 := jn_set a b hb
  rw [Int.natCast_add] at hset0
  have hset := Lib.hid hset0
  clear hset0
  obtain ⟨y, e1, e2⟩ := jn_four a
  obtain ⟨o1, o2⟩ := lb_or y b hb
  rw [← e1] at o1 o2
  have hbB : b < B := by rw [B_val]; omega
  have hw : IntKind.u64.wrap (b : Int) = (b : Int) := by rw [u64_wrap, Nat.mod_eq_of_lt hbB]
  clear e1 e2
  generalize a * 4 % M = x at *
  generalize jn a b = z at *
  have hor : bits .or .u64 ((lb x 0 : Nat) : Int) (b : Int) = (lb x 0 : Int) + (b : Int) := by rw [bits_or64 _ _ (lb_lt x 0) hbB, o1]; omega
  clear o1
  go_enter Tryz.func133, Tryz.ntmps133
  go_wp2_with ((first | (refine kf gf92 hst (h1) rfl rfl rfl rfl ?_; clear hst; intro w hst) | (refine kb 2 hst rfl rfl ?_; clear hst; intro b2 w hb2 hst) | (refine ka 4 hst tz25 rfl rfl ?_; clear hst; intro b4 w hb4 hst) | (refine kl hst ta25 rfl ?_) | (refine klm hst ta25 rfl ?_) | (refine kt hst ta25 rfl rfl ?_; clear hst; intro w hst; (try rw [hset.out] at hst)) | (refine ktm hst ta25 rfl rfl ?_; clear hst; intro w hst; (try rw [hset.out] at hst)) | (refine kc hst tc23 rfl ?_) | (refine ks hst tc23 rfl rfl ?_; clear hst; intro w hst; (try rw [hset.out] at hst))); try simp only [pz, pn, sz, sc])
  refine bp_c rfl rfl (la hst ta25) ⟨?_, hst.keeps⟩
  rfl

theorem fly_is (d : Int) (h1 : -3 ≤ d) (h2 : d ≤ 3) : Gives Tryz.prog 132 #[.int .i64 d] (.bool true) := by
  intro w0
  have hst := St.start [] w0
  go_enter Tryz.func132, Tryz.ntmps132
  go_wp2_with fail
  refine bp_t rfl rfl (by rfl) ⟨?_, hst.keeps⟩
  rfl

def flyQ (q s : Nat) (d : Int) : Nat := if 0 < d then jn q d.toNat else if d = 0 then jn q 0 else jn s (4 + d).toNat
def flyS (q s : Nat) (d : Int) : Nat := if 0 < d then jn q (d - 1).toNat else if d = 0 then jn s 3 else jn s (3 + d).toNat
theorem flyQ_lt (q s : Nat) (d : Int) (h1 : -2 ≤ d) (h2 : d ≤ 2) : flyQ q s d < M := by
  unfold flyQ; split
  · exact jn_lt _ _ (by omega)
  · split <;> exact jn_lt _ _ (by omega)
theorem flyS_lt (q s : Nat) (d : Int) (h1 : -2 ≤ d) (h2 : d ≤ 2) : flyS q s d < M := by
  unfold flyS; split
  · exact jn_lt _ _ (by omega)
  · split <;> exact jn_lt _ _ (by omega)

set_option maxHeartbeats 2000000 in
theorem fly_Next (q s : Nat) (hq : q < M) (hs : s < M) (d : Int) (h1 : -2 ≤ d) (h2 : d ≤ 2) : Gives Tryz.prog 119 #[.agg (wc 8 q ++ wc 8 s), .int .i64 d] (.tuple #[.agg (wc 8 (flyQ q s d) ++ wc 8 (flyS q s d)), .bool true]) := by
  intro w0
  have hst := St.start [] w0
  have his := fly_is d (by omega) (by omega)
  have j1 := fun b hb => fly_join q b hq hb
  have j2 := fun b hb => fly_join s b hs hb
  unfold flyQ flyS
  by_cases p1 : 0 < d
  · rw [if_pos p1, if_pos p1]
    have c1 := j1 d.toNat (by omega)
    have c2 := j1 (d - 1).toNat (by omega)
    rw [show ((d.toNat : Nat) : Int) = d by omega] at c1
    rw [show (((d - 1).toNat : Nat) : Int) = d - 1 by omega] at c2
    clear j1 j2 hq hs
    generalize jn q d.toNat = x at *
    generalize jn q (d - 1).toNat = y at *
    have z1 : (wc 8 q ++ wc 8 s).size = 16 := by simp
    have z2 := app_one q s
    have z3 : (wc 8 x ++ wc 8 y).size = 16 := by simp
    have z4 := app_one x y
    have hW1 : IntKind.i64.wrap (d - 1) = d - 1 := by rw [IntKind.wrap_i64]; omega
    go_enter Tryz.func119, Tryz.ntmps119
    go_wp2_with ((first | (refine kf gf132 hst (his) rfl rfl rfl rfl ?_; clear hst; intro w hst) | (refine kb 2 hst rfl rfl ?_; clear hst; intro b2 w hb2 hst) | (refine ka 4 hst tz177 rfl rfl ?_; clear hst; intro b4 w hb4 hst) | (refine kl hst ta177 rfl ?_) | (refine klm hst ta177 rfl ?_) | (refine kt hst ta177 rfl rfl ?_; clear hst; intro w hst) | (refine ktm hst ta177 rfl rfl ?_; clear hst; intro w hst) | (refine kl hst ta25 rfl ?_) | (refine klm hst ta25 rfl ?_) | (refine kB (tb177_01 _ _) rfl ?_)); try simp only [pz, pn, sz, sc])
    refine wp_region_T 10  hst (by kernel_rfl) ?_; clear hst; intro w hst; (try dsimp only [List.length_cons, List.length_nil]); (try simp only [List.length_cons, List.length_nil, Nat.reduceAdd, Array.replicate_succ, Array.replicate_zero, List.push_toArray, List.nil_append, List.cons_append])
    refine r0 0 ?_; simp only [pz, pn, sz, sc, hW1]
    refine r0 2 ?_; simp only [pz, pn, sz, sc, hW1]
    refine r0 4 ?_; simp only [pz, pn, sz, sc, hW1]
    refine r0 6 ?_; simp only [pz, pn, sz, sc, hW1]
    refine r0 7 ?_; simp only [pz, pn, sz, sc, hW1]
    refine rl 1 rfl ?_ (by first | exact ylA ta25 | exact ylM ta25); simp only [pz, pn, sz, sc, hW1]
    refine rl 5 rfl ?_ (by first | exact ylA ta25 | exact ylM ta25); simp only [pz, pn, sz, sc, hW1]
    refine r1 3 ?_; (first | (refine kf gf133 hst (c1) rfl rfl rfl rfl ?_; clear hst; intro w hst) | (refine kf gf133 hst (c2) rfl rfl rfl rfl ?_; clear hst; intro w hst) | (refine kp ?_)); (try simp only [pz, pn, sz, sc, hW1]); refine re ?_
    refine r1 8 ?_; (first | (refine kf gf133 hst (c1) rfl rfl rfl rfl ?_; clear hst; intro w hst) | (refine kf gf133 hst (c2) rfl rfl rfl rfl ?_; clear hst; intro w hst) | (refine kp ?_)); (try simp only [pz, pn, sz, sc, hW1]); refine re ?_
    refine r0 9 ?_ (hy := yB (tb177_01 _ _)); simp only [pz, pn, sz, sc, hW1]
    refine r1 10 ?_; (first | (refine kt hst ta177 rfl rfl ?_; clear hst; intro w hst) | (refine ktm hst ta177 rfl rfl ?_; clear hst; intro w hst)); (try simp only [pz, pn, sz, sc, hW1]); refine re ?_
    refine r0 11 ?_; simp only [pz, pn, sz, sc, hW1]
    refine rd_ ?_
    all_goals
      go_wp2_with ((first | (refine kb 2 hst rfl rfl ?_; clear hst; intro b2 w hb2 hst) | (refine ka 4 hst tz177 rfl rfl ?_; clear hst; intro b4 w hb4 hst) | (refine kl hst ta177 rfl ?_) | (refine klm hst ta177 rfl ?_) | (refine kt hst ta177 rfl rfl ?_; clear hst; intro w hst) | (refine ktm hst ta177 rfl rfl ?_; clear hst; intro w hst) | (refine kl hst ta25 rfl ?_) | (refine klm hst ta25 rfl ?_) | (refine kB (tb177_01 _ _) rfl ?_)); try simp only [pz, pn, sz, sc])
      refine bp_ct rfl rfl (la hst ta177) (by rfl) ⟨?_, hst.keeps⟩
      rfl
  · rw [if_neg p1, if_neg p1]
    by_cases p2 : d = 0
    · rw [if_pos p2, if_pos p2]
      subst p2
      have c1 := j1 0 (by omega)
      have c2 := j2 3 (by omega)
      rw [show ((0 : Nat) : Int) = 0 from rfl] at c1
      rw [show ((3 : Nat) : Int) = 3 from rfl] at c2
      clear j1 j2 hq hs p1
      generalize jn q 0 = x at *
      generalize jn s 3 = y at *
      have z1 : (wc 8 q ++ wc 8 s).size = 16 := by simp
      have z2 := app_one q s
      have z3 : (wc 8 x ++ wc 8 y).size = 16 := by simp
      have z4 := app_one x y
      go_enter Tryz.func119, Tryz.ntmps119
      go_wp2_with ((first | (refine kf gf132 hst (his) rfl rfl rfl rfl ?_; clear hst; intro w hst) | (refine kb 2 hst rfl rfl ?_; clear hst; intro b2 w hb2 hst) | (refine ka 4 hst tz177 rfl rfl ?_; clear hst; intro b4 w hb4 hst) | (refine kl hst ta177 rfl ?_) | (refine klm hst ta177 rfl ?_) | (refine kt hst ta177 rfl rfl ?_; clear hst; intro w hst) | (refine ktm hst ta177 rfl rfl ?_; clear hst; intro w hst) | (refine kl hst ta25 rfl ?_) | (refine klm hst ta25 rfl ?_) | (refine kB (tb177_01 _ _) rfl ?_)); try simp only [pz, pn, sz, sc])
      refine wp_region_T 7  hst (by kernel_rfl) ?_; clear hst; intro w hst; (try dsimp only [List.length_cons, List.length_nil]); (try simp only [List.length_cons, List.length_nil, Nat.reduceAdd, Array.replicate_succ, Array.replicate_zero, List.push_toArray, List.nil_append, List.cons_append])
      refine r0 0 ?_; simp only [pz, pn, sz, sc]
      refine r0 3 ?_; simp only [pz, pn, sz, sc]
      refine rl 1 rfl ?_ (by first | exact ylA ta25 | exact ylM ta25); simp only [pz, pn, sz, sc]
      refine rl 4 rfl ?_ (by first | exact ylA ta25 | exact ylM ta25); simp only [pz, pn, sz, sc]
      refine r1 2 ?_; (first | (refine kf gf133 hst (c1) rfl rfl rfl rfl ?_; clear hst; intro w hst) | (refine kf gf133 hst (c2) rfl rfl rfl rfl ?_; clear hst; intro w hst) | (refine kp ?_)); (try simp only [pz, pn, sz, sc]); refine re ?_
      refine r1 5 ?_; (first | (refine kf gf133 hst (c1) rfl rfl rfl rfl ?_; clear hst; intro w hst) | (refine kf gf133 hst (c2) rfl rfl rfl rfl ?_; clear hst; intro w hst) | (refine kp ?_)); (try simp only [pz, pn, sz, sc]); refine re ?_
      refine r0 6 ?_ (hy := yB (tb177_01 _ _)); simp only [pz, pn, sz, sc]
      refine r1 7 ?_; (first | (refine kt hst ta177 rfl rfl ?_; clear hst; intro w hst) | (refine ktm hst ta177 rfl rfl ?_; clear hst; intro w hst)); (try simp only [pz, pn, sz, sc]); refine re ?_
      refine r0 8 ?_; simp only [pz, pn, sz, sc]
      refine rd_ ?_
      all_goals
        go_wp2_with ((first | (refine kb 2 hst rfl rfl ?_; clear hst; intro b2 w hb2 hst) | (refine ka 4 hst tz177 rfl rfl ?_; clear hst; intro b4 w hb4 hst) | (refine kl hst ta177 rfl ?_) | (refine klm hst ta177 rfl ?_) | (refine kt hst ta177 rfl rfl ?_; clear hst; intro w hst) | (refine ktm hst ta177 rfl rfl ?_; clear hst; intro w hst) | (refine kl hst ta25 rfl ?_) | (refine klm hst ta25 rfl ?_) | (refine kB (tb177_01 _ _) rfl ?_)); try simp only [pz, pn, sz, sc])
        refine bp_ct rfl rfl (la hst ta177) (by rfl) ⟨?_, hst.keeps⟩
        rfl
    · rw [if_neg p2, if_neg p2]
      have c1 := j2 (4 + d).toNat (by omega)
      have c2 := j2 (3 + d).toNat (by omega)
      rw [show (((4 + d).toNat : Nat) : Int) = 4 + d by omega] at c1
      rw [show (((3 + d).toNat : Nat) : Int) = 3 + d by omega] at c2
      have Q0 : (d == 0) = false := by simpa using p2
      clear j1 j2 hq hs p2
      generalize jn s (4 + d).toNat = x at *
      generalize jn s (3 + d).toNat = y at *
      have z1 : (wc 8 q ++ wc 8 s).size = 16 := by simp
      have z2 := app_one q s
      have z3 : (wc 8 x ++ wc 8 y).size = 16 := by simp
      have z4 := app_one x y
      have hW1 : IntKind.i64.wrap (4 + d) = 4 + d := by rw [IntKind.wrap_i64]; omega
      have hW2 : IntKind.i64.wrap (3 + d) = 3 + d := by rw [IntKind.wrap_i64]; omega
      go_enter Tryz.func119, Tryz.ntmps119
      go_wp2_with ((first | (refine kf gf132 hst (his) rfl rfl rfl rfl ?_; clear hst; intro w hst) | (refine kb 2 hst rfl rfl ?_; clear hst; intro b2 w hb2 hst) | (refine ka 4 hst tz177 rfl rfl ?_; clear hst; intro b4 w hb4 hst) | (refine kl hst ta177 rfl ?_) | (refine klm hst ta177 rfl ?_) | (refine kt hst ta177 rfl rfl ?_; clear hst; intro w hst) | (refine ktm hst ta177 rfl rfl ?_; clear hst; intro w hst) | (refine kl hst ta25 rfl ?_) | (refine klm hst ta25 rfl ?_) | (refine kB (tb177_01 _ _) rfl ?_)); try simp only [pz, pn, sz, sc])
      refine wp_region_T 11  hst (by kernel_rfl) ?_; clear hst; intro w hst; (try dsimp only [List.length_cons, List.length_nil]); (try simp only [List.length_cons, List.length_nil, Nat.reduceAdd, Array.replicate_succ, Array.replicate_zero, List.push_toArray, List.nil_append, List.cons_append])
      refine r0 0 ?_; simp only [pz, pn, sz, sc, hW1, hW2]
      refine r0 2 ?_; simp only [pz, pn, sz, sc, hW1, hW2]
      refine r0 3 ?_; simp only [pz, pn, sz, sc, hW1, hW2]
      refine r0 5 ?_; simp only [pz, pn, sz, sc, hW1, hW2]
      refine r0 7 ?_; simp only [pz, pn, sz, sc, hW1, hW2]
      refine r0 8 ?_; simp only [pz, pn, sz, sc, hW1, hW2]
      refine rl 1 rfl ?_ (by first | exact ylA ta25 | exact ylM ta25); simp only [pz, pn, sz, sc, hW1, hW2]
      refine rl 6 rfl ?_ (by first | exact ylA ta25 | exact ylM ta25); simp only [pz, pn, sz, sc, hW1, hW2]
      refine r1 4 ?_; (first | (refine kf gf133 hst (c1) rfl rfl rfl rfl ?_; clear hst; intro w hst) | (refine kf gf133 hst (c2) rfl rfl rfl rfl ?_; clear hst; intro w hst) | (refine kp ?_)); (try simp only [pz, pn, sz, sc, hW1, hW2]); refine re ?_
      refine r1 9 ?_; (first | (refine kf gf133 hst (c1) rfl rfl rfl rfl ?_; clear hst; intro w hst) | (refine kf gf133 hst (c2) rfl rfl rfl rfl ?_; clear hst; intro w hst) | (refine kp ?_)); (try simp only [pz, pn, sz, sc, hW1, hW2]); refine re ?_
      refine r0 10 ?_ (hy := yB (tb177_01 _ _)); simp only [pz, pn, sz, sc, hW1, hW2]
      refine r1 11 ?_; (first | (refine kt hst ta177 rfl rfl ?_; clear hst; intro w hst) | (refine ktm hst ta177 rfl rfl ?_; clear hst; intro w hst)); (try simp only [pz, pn, sz, sc, hW1, hW2]); refine re ?_
      refine r0 12 ?_; simp only [pz, pn, sz, sc, hW1, hW2]
      refine rd_ ?_
      all_goals
        go_wp2_with ((first | (refine kb 2 hst rfl rfl ?_; clear hst; intro b2 w hb2 hst) | (refine ka 4 hst tz177 rfl rfl ?_; clear hst; intro b4 w hb4 hst) | (refine kl hst ta177 rfl ?_) | (refine klm hst ta177 rfl ?_) | (refine kt hst ta177 rfl rfl ?_; clear hst; intro w hst) | (refine ktm hst ta177 rfl rfl ?_; clear hst; intro w hst) | (refine kl hst ta25 rfl ?_) | (refine klm hst ta25 rfl ?_) | (refine kB (tb177_01 _ _) rfl ?_)); try simp only [pz, pn, sz, sc])
        refine bp_ct rfl rfl (la hst ta177) (by rfl) ⟨?_, hst.keeps⟩
        rfl

set_option maxHeartbeats 2000000 in
theorem fly_New (x : Nat) (hx : x = M - 1) : Gives Tryz.prog 116 #[W 0] (.agg (wc 8 0 ++ wc 8 x)) := by
  intro w0
  have hst := St.start [] w0
  have h1' := Lib.hid (wc_1 1 (by decide))
  have hof := of_u64 1 (by decide)
  have hsub := wide_Sub 0 1 M_pos (small_M (by decide))
  have e : (0 + M - 1) % M = x := by rw [Nat.zero_add, Nat.mod_eq_of_lt (by have := M_pos; omega)]; exact hx.symm
  rw [e] at hsub
  have z3 : (wc 8 0 ++ wc 8 x).size = 16 := by simp
  have z4 := app_one 0 x
  clear e hx
  go_enter Tryz.func116, Tryz.ntmps116
  go_wp2_with ((first | (refine kb 1 hst rfl rfl ?_; clear hst; intro b1 w hb1 hst) | (refine ka 2 hst tz177 rfl rfl ?_; clear hst; intro b2 w hb2 hst) | (refine kl hst ta25 rfl ?_) | (refine klm hst ta25 rfl ?_) | (refine wl_slice1 (o := ⟨some 7, _, _, _, _, _⟩) hst ts145 te23 rfl rfl (by (simp only [eval_lit, eval_k, eval_f, eval_g, List.getD_cons_succ, List.getD_cons_zero]) <;> rfl) (by rfl) ?_; clear hst; intro b7 w hb7 hst) | (refine ka 3 hst tz25 rfl rfl ?_; clear hst; intro b3 w hb3 hst) | (refine kt hst ta25 rfl rfl ?_; clear hst; intro w hst) | (refine ktm hst ta25 rfl rfl ?_; clear hst; intro w hst) | (refine kB (tb177_01 _ _) rfl ?_) | (refine kt hst ta177 rfl rfl ?_; clear hst; intro w hst) | (refine ktm hst ta177 rfl rfl ?_; clear hst; intro w hst)); try simp only [pz, pn, sz, sc])
  refine wp_region_T 8  hst (by kernel_rfl) ?_; clear hst; intro w hst; (try dsimp only [List.length_cons, List.length_nil]); (try simp only [List.length_cons, List.length_nil, Nat.reduceAdd, Array.replicate_succ, Array.replicate_zero, List.push_toArray, List.nil_append, List.cons_append])
  refine rl 0 rfl ?_ (by first | exact ylA ta25 | exact ylM ta25); simp only [pz, pn, sz, sc]
  refine r2 1 7 ?_ ?_
  (refine wl_slice1 (o := ⟨some 7, _, _, _, _, _⟩) hst ts145 te23 rfl rfl (by (simp only [eval_lit, eval_k, eval_f, eval_g, List.getD_cons_succ, List.getD_cons_zero]) <;> rfl) (by rfl) ?_; clear hst; intro b7 w hb7 hst); (try simp only [pz, pn, sz, sc]); refine re ?_
  refine r2 2 7 ?_ ?_
  (first | (refine kg gf86 hst (fun w hst => hof _ w (by rw [← h1'.out]; exact hst.own _ _ (by repeat (first | exact List.Mem.head _ | refine List.Mem.tail _ ?_)))) rfl rfl rfl rfl ?_; clear hst; intro w hst) | (refine kf gf93 hst (hsub) rfl rfl rfl rfl ?_; clear hst; intro w hst) | (refine kp ?_)); (try simp only [pz, pn, sz, sc]); refine re ?_
  refine r2 3 7 ?_ ?_
  (first | (refine kg gf86 hst (fun w hst => hof _ w (by rw [← h1'.out]; exact hst.own _ _ (by repeat (first | exact List.Mem.head _ | refine List.Mem.tail _ ?_)))) rfl rfl rfl rfl ?_; clear hst; intro w hst) | (refine kf gf93 hst (hsub) rfl rfl rfl rfl ?_; clear hst; intro w hst) | (refine kp ?_)); (try simp only [pz, pn, sz, sc]); refine re ?_
  refine r0 4 ?_; simp only [pz, pn, sz, sc]
  refine r0 5 ?_; simp only [pz, pn, sz, sc]
  refine r0 6 ?_; simp only [pz, pn, sz, sc]
  refine r1 7 ?_; (refine ka 3 hst tz25 rfl rfl ?_; clear hst; intro b3 w hb3 hst); (try simp only [pz, pn, sz, sc]); refine re ?_
  refine r1 8 ?_; (first | (refine kt hst ta25 rfl rfl ?_; clear hst; intro w hst) | (refine ktm hst ta25 rfl rfl ?_; clear hst; intro w hst)); (try simp only [pz, pn, sz, sc]); refine re ?_
  refine r0 9 ?_; simp only [pz, pn, sz, sc]
  refine rd_ ?_
  rotate_left 1
  (refine ka 3 hst tz25 rfl rfl ?_; clear hst; intro b3 w hb3 hst); (try simp only [pz, pn, sz, sc]); refine re ?_
  refine r1 3 ?_; (first | (refine kg gf86 hst (fun w hst => hof _ w (by rw [← h1'.out]; exact hst.own _ _ (by repeat (first | exact List.Mem.head _ | refine List.Mem.tail _ ?_)))) rfl rfl rfl rfl ?_; clear hst; intro w hst) | (refine kf gf93 hst (hsub) rfl rfl rfl rfl ?_; clear hst; intro w hst) | (refine kp ?_)); (try simp only [pz, pn, sz, sc]); refine re ?_
  refine r0 4 ?_; simp only [pz, pn, sz, sc]
  refine r0 5 ?_; simp only [pz, pn, sz, sc]
  refine r0 6 ?_; simp only [pz, pn, sz, sc]
  refine r1 8 ?_; (first | (refine kt hst ta25 rfl rfl ?_; clear hst; intro w hst) | (refine ktm hst ta25 rfl rfl ?_; clear hst; intro w hst)); (try simp only [pz, pn, sz, sc]); refine re ?_
  refine r0 9 ?_; simp only [pz, pn, sz, sc]
  refine rd_ ?_
  rotate_right 1
  rotate_left 2
  (refine ka 3 hst tz25 rfl rfl ?_; clear hst; intro b3 w hb3 hst); (try simp only [pz, pn, sz, sc]); refine re ?_
  refine r1 2 ?_; (first | (refine kg gf86 hst (fun w hst => hof _ w (by rw [← h1'.out]; exact hst.own _ _ (by repeat (first | exact List.Mem.head _ | refine List.Mem.tail _ ?_)))) rfl rfl rfl rfl ?_; clear hst; intro w hst) | (refine kf gf93 hst (hsub) rfl rfl rfl rfl ?_; clear hst; intro w hst) | (refine kp ?_)); (try simp only [pz, pn, sz, sc]); refine re ?_
  refine r1 3 ?_; (first | (refine kg gf86 hst (fun w hst => hof _ w (by rw [← h1'.out]; exact hst.own _ _ (by repeat (first | exact List.Mem.head _ | refine List.Mem.tail _ ?_)))) rfl rfl rfl rfl ?_; clear hst; intro w hst) | (refine kf gf93 hst (hsub) rfl rfl rfl rfl ?_; clear hst; intro w hst) | (refine kp ?_)); (try simp only [pz, pn, sz, sc]); refine re ?_
  refine r0 4 ?_; simp only [pz, pn, sz, sc]
  refine r0 5 ?_; simp only [pz, pn, sz, sc]
  refine r0 6 ?_; simp only [pz, pn, sz, sc]
  refine r1 8 ?_; (first | (refine kt hst ta25 rfl rfl ?_; clear hst; intro w hst) | (refine ktm hst ta25 rfl rfl ?_; clear hst; intro w hst)); (try simp only [pz, pn, sz, sc]); refine re ?_
  refine r0 9 ?_; simp only [pz, pn, sz, sc]
  refine rd_ ?_
  rotate_right 2
  rotate_left 3
  (refine ka 3 hst tz25 rfl rfl ?_; clear hst; intro b3 w hb3 hst); (try simp only [pz, pn, sz, sc]); refine re ?_
  refine r1 1 ?_; (refine wl_slice1 (o := ⟨some 7, _, _, _, _, _⟩) hst ts145 te23 rfl rfl (by (simp only [eval_lit, eval_k, eval_f, eval_g, List.getD_cons_succ, List.getD_cons_zero]) <;> rfl) (by rfl) ?_; clear hst; intro b7 w hb7 hst); (try simp only [pz, pn, sz, sc]); refine re ?_
  refine r1 2 ?_; (first | (refine kg gf86 hst (fun w hst => hof _ w (by rw [← h1'.out]; exact hst.own _ _ (by repeat (first | exact List.Mem.head _ | refine List.Mem.tail _ ?_)))) rfl rfl rfl rfl ?_; clear hst; intro w hst) | (refine kf gf93 hst (hsub) rfl rfl rfl rfl ?_; clear hst; intro w hst) | (refine kp ?_)); (try simp only [pz, pn, sz, sc]); refine re ?_
  refine r1 3 ?_; (first | (refine kg gf86 hst (fun w hst => hof _ w (by rw [← h1'.out]; exact hst.own _ _ (by repeat (first | exact List.Mem.head _ | refine List.Mem.tail _ ?_)))) rfl rfl rfl rfl ?_; clear hst; intro w hst) | (refine kf gf93 hst (hsub) rfl rfl rfl rfl ?_; clear hst; intro w hst) | (refine kp ?_)); (try simp only [pz, pn, sz, sc]); refine re ?_
  refine r0 4 ?_; simp only [pz, pn, sz, sc]
  refine r0 5 ?_; simp only [pz, pn, sz, sc]
  refine r0 6 ?_; simp only [pz, pn, sz, sc]
  refine r1 8 ?_; (first | (refine kt hst ta25 rfl rfl ?_; clear hst; intro w hst) | (refine ktm hst ta25 rfl rfl ?_; clear hst; intro w hst)); (try simp only [pz, pn, sz, sc]); refine re ?_
  refine r0 9 ?_; simp only [pz, pn, sz, sc]
  refine rd_ ?_
  rotate_right 3
  all_goals
    go_wp2_with ((first | (refine kb 1 hst rfl rfl ?_; clear hst; intro b1 w hb1 hst) | (refine ka 2 hst tz177 rfl rfl ?_; clear hst; intro b2 w hb2 hst) | (refine kl hst ta25 rfl ?_) | (refine klm hst ta25 rfl ?_) | (refine wl_slice1 (o := ⟨some 7, _, _, _, _, _⟩) hst ts145 te23 rfl rfl (by (simp only [eval_lit, eval_k, eval_f, eval_g, List.getD_cons_succ, List.getD_cons_zero]) <;> rfl) (by rfl) ?_; clear hst; intro b7 w hb7 hst) | (refine ka 3 hst tz25 rfl rfl ?_; clear hst; intro b3 w hb3 hst) | (refine kt hst ta25 rfl rfl ?_; clear hst; intro w hst) | (refine ktm hst ta25 rfl rfl ?_; clear hst; intro w hst) | (refine kB (tb177_01 _ _) rfl ?_) | (refine kt hst ta177 rfl rfl ?_; clear hst; intro w hst) | (refine ktm hst ta177 rfl rfl ?_; clear hst; intro w hst)); try simp only [pz, pn, sz, sc])
    refine bp_c rfl rfl (la hst ta177) ⟨?_, hst.keeps⟩
    rfl

end Go.Proofs.YtggchelniblipaaGreat.Rd
