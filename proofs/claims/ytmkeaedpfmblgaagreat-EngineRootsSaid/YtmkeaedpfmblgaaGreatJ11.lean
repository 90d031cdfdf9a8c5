/- What srtroot.Root$1, run answer. -/
import Derived.Test.YtmkeaedpfmblgaaGreatJ10
namespace Go.Proofs.YtmkeaedpfmblgaaGreat.Rd
open Go Go.RowKit
set_option linter.unusedVariables false
set_option linter.unusedSimpArgs false
set_option maxRecDepth 100000

theorem toW_shl (z : Int) (c : Nat) (hc : c ≤ 512) : Gives Tryz.prog 115 #[W (toW z), .int .i64 (c : Int)] (W (toW (z * (2 ^ c : Nat)))) := by
  have h := wide_Shl (toW z) (c : Int) (toW_lt z)
  rw [clampN_nat c hc, toW_mul] at h
  exact h
theorem toW_power (c : Nat) (hc : c < 512) : Gives Tryz.prog 118 #[.int .i64 (c : Int)] (W (toW ((2 ^ c : Nat) : Int))) := by
  have h := wide_Power (c : Int)
  rw [show pow2 (c : Int) = toW ((2 ^ c : Nat) : Int) by rw [toW_pow c hc]; unfold pow2; rw [if_pos (by omega)]; rfl] at h
  exact h
theorem toW_Sub (a b : Int) : ∃ c, Gives Tryz.prog 116 #[W (toW a), W (toW b)] (.tuple #[W (toW (a - b)), .bool c]) := by
  have h := wide_Sub (toW a) (toW b) (toW_lt a) (toW_lt b)
  rw [toW_sub] at h
  exact ⟨_, h⟩
theorem toW_Add (a b : Int) : ∃ c, Gives Tryz.prog 117 #[W (toW a), W (toW b)] (.tuple #[W (toW (a + b)), .bool c]) := by
  have h := wide_Add (toW a) (toW b) (toW_lt a) (toW_lt b)
  rw [toW_add] at h
  exact ⟨_, h⟩

set_option maxHeartbeats 8000000 in
theorem srtroot_next (p l d p' l' : Int) (c : Nat) (hc : c ≤ 200) (hd1 : -2 ≤ d) (hd2 : d ≤ 2) (hp : p' = p + (2 ^ c : Nat) * d) (hl : l' = l - p * (2 ^ (c + 1) : Nat) * d - (2 ^ (2 * c) : Nat) * (d * d)) :
    Gives Tryz.prog 162 #[.agg (farC p l), .int .i64 d, .int .i64 (c : Int)] (.agg (farC p' l')) := by
  intro w0
  have hst := St.start [] w0
  have hdd : 0 ≤ d * d ∧ d * d ≤ 4 := by
    have : d = -2 ∨ d = -1 ∨ d = 0 ∨ d = 1 ∨ d = 2 := by omega
    rcases this with rfl | rfl | rfl | rfl | rfl <;> decide
  have h1 := toW_shl p (c + 1) (by omega)
  rw [show ((c + 1 : Nat) : Int) = (c : Int) + 1 by omega] at h1
  have h2 := srtroot_times (p * (2 ^ (c + 1) : Nat)) d (by omega) (by omega)
  obtain ⟨s1, h3⟩ := toW_Sub l (p * (2 ^ (c + 1) : Nat) * d)
  have h4 := toW_power (2 * c) (by omega)
  rw [show ((2 * c : Nat) : Int) = 2 * (c : Int) by omega] at h4
  have h5 := srtroot_times ((2 ^ (2 * c) : Nat) : Int) (d * d) (by omega) (by omega)
  obtain ⟨s2, h6⟩ := toW_Sub (l - p * (2 ^ (c + 1) : Nat) * d) (((2 ^ (2 * c) : Nat) : Int) * (d * d))
  rw [← hl] at h6
  have h7 := toW_power c (by omega)
  have h8 := srtroot_times ((2 ^ c : Nat) : Int) d (by omega) (by omega)
  obtain ⟨s3, h9⟩ := toW_Add p (((2 ^ c : Nat) : Int) * d)
  rw [← hp] at h9
  have w1 : IntKind.i64.wrap (2 * (c : Int)) = 2 * (c : Int) := i64w _ (by omega) (by omega)
  have w2 : IntKind.i64.wrap (d * d) = d * d := i64w _ (by omega) (by omega)
  unfold farC
  clear hp hl
  generalize toW ((2 ^ (2 * c) : Nat) : Int) = x1 at *
  generalize toW ((2 ^ c : Nat) : Int) = x2 at *
  generalize toW (p * (2 ^ (c + 1) : Nat)) = x3 at *
  generalize toW (p * (2 ^ (c + 1) : Nat) * d) = x4 at *
  generalize toW (l - p * (2 ^ (c + 1) : Nat) * d) = x5 at *
  generalize toW (((2 ^ (2 * c) : Nat) : Int) * (d * d)) = x6 at *
  generalize toW (((2 ^ c : Nat) : Int) * d) = x7 at *
  generalize toW p = y1 at *
  generalize toW l = y2 at *
  generalize toW p' = y3 at *
  generalize toW l' = y4 at *
  have k1 : (wc 8 y1 ++ wc 8 y2).size = 16 := by simp
  have k2 : (wc 8 y3 ++ wc 8 y4).size = 16 := by simp
  have k3 := app_one y3 y4
  go_enter Tryz.func162, Tryz.ntmps162
  go_wp2_with ((first | (refine kf gf115 hst (h1) rfl rfl rfl rfl ?_; clear hst; intro w hst) | (refine kb 3 hst rfl rfl ?_; clear hst; intro b3 w hb3 hst) | (refine ka 6 hst tz210 rfl rfl ?_; clear hst; intro b6 w hb6 hst) | (refine kl hst ta24 rfl ?_) | (refine klm hst ta24 rfl ?_) | (refine ka 7 hst tz24 rfl rfl ?_; clear hst; intro b7 w hb7 hst) | (refine kt hst ta24 rfl rfl ?_; clear hst; intro w hst) | (refine ktm hst ta24 rfl rfl ?_; clear hst; intro w hst) | (refine ka 8 hst tz24 rfl rfl ?_; clear hst; intro b8 w hb8 hst) | (refine ka 10 hst tz24 rfl rfl ?_; clear hst; intro b10 w hb10 hst) | (refine kB (tb210_01 _ _) rfl ?_) | (refine kt hst ta210 rfl rfl ?_; clear hst; intro w hst) | (refine ktm hst ta210 rfl rfl ?_; clear hst; intro w hst)); try simp only [pz, pn, sz, sc])
  refine wp_region_T 10  hst (by kernel_rfl) ?_; clear hst; intro w hst; (try dsimp only [List.length_cons, List.length_nil]); (try simp only [List.length_cons, List.length_nil, Nat.reduceAdd, Array.replicate_succ, Array.replicate_zero, List.push_toArray, List.nil_append, List.cons_append])
  refine r0 0 ?_; simp only [pz, pn, sz, sc]
  refine r0 3 ?_; simp only [pz, pn, sz, sc]
  refine rl 1 rfl ?_ (by first | exact ylA ta24 | exact ylM ta24); simp only [pz, pn, sz, sc]
  refine rl 2 rfl ?_ (by first | exact ylA ta24 | exact ylM ta24); simp only [pz, pn, sz, sc]
  refine r2 4 9 ?_ ?_
  (first | (refine kf gf171 hst (h2) rfl rfl rfl rfl ?_; clear hst; intro w hst) | (refine kf gf116 hst (h3) rfl rfl rfl rfl ?_; clear hst; intro w hst) | (refine kp ?_)); (try simp only [pz, pn, sz, sc]); refine re ?_
  refine r2 5 9 ?_ ?_
  (first | (refine kf gf171 hst (h2) rfl rfl rfl rfl ?_; clear hst; intro w hst) | (refine kf gf116 hst (h3) rfl rfl rfl rfl ?_; clear hst; intro w hst) | (refine kp ?_)); (try simp only [pz, pn, sz, sc]); refine re ?_
  refine r0 6 ?_; simp only [pz, pn, sz, sc]
  refine r0 7 ?_; simp only [pz, pn, sz, sc]
  refine r0 8 ?_; simp only [pz, pn, sz, sc]
  refine r1 9 ?_; (refine ka 8 hst tz24 rfl rfl ?_; clear hst; intro b8 w hb8 hst); (try simp only [pz, pn, sz, sc]); refine re ?_
  refine r1 10 ?_; (first | (refine kt hst ta24 rfl rfl ?_; clear hst; intro w hst) | (refine ktm hst ta24 rfl rfl ?_; clear hst; intro w hst)); (try simp only [pz, pn, sz, sc]); refine re ?_
  refine r0 11 ?_; simp only [pz, pn, sz, sc]
  refine rd_ ?_
  rotate_left 1
  (refine ka 8 hst tz24 rfl rfl ?_; clear hst; intro b8 w hb8 hst); (try simp only [pz, pn, sz, sc]); refine re ?_
  refine r1 5 ?_; (first | (refine kf gf171 hst (h2) rfl rfl rfl rfl ?_; clear hst; intro w hst) | (refine kf gf116 hst (h3) rfl rfl rfl rfl ?_; clear hst; intro w hst) | (refine kp ?_)); (try simp only [pz, pn, sz, sc]); refine re ?_
  refine r0 6 ?_; simp only [pz, pn, sz, sc]
  refine r0 7 ?_; simp only [pz, pn, sz, sc]
  refine r0 8 ?_; simp only [pz, pn, sz, sc]
  refine r1 10 ?_; (first | (refine kt hst ta24 rfl rfl ?_; clear hst; intro w hst) | (refine ktm hst ta24 rfl rfl ?_; clear hst; intro w hst)); (try simp only [pz, pn, sz, sc]); refine re ?_
  refine r0 11 ?_; simp only [pz, pn, sz, sc]
  refine rd_ ?_
  rotate_right 1
  rotate_left 2
  (refine ka 8 hst tz24 rfl rfl ?_; clear hst; intro b8 w hb8 hst); (try simp only [pz, pn, sz, sc]); refine re ?_
  refine r1 4 ?_; (first | (refine kf gf171 hst (h2) rfl rfl rfl rfl ?_; clear hst; intro w hst) | (refine kf gf116 hst (h3) rfl rfl rfl rfl ?_; clear hst; intro w hst) | (refine kp ?_)); (try simp only [pz, pn, sz, sc]); refine re ?_
  refine r1 5 ?_; (first | (refine kf gf171 hst (h2) rfl rfl rfl rfl ?_; clear hst; intro w hst) | (refine kf gf116 hst (h3) rfl rfl rfl rfl ?_; clear hst; intro w hst) | (refine kp ?_)); (try simp only [pz, pn, sz, sc]); refine re ?_
  refine r0 6 ?_; simp only [pz, pn, sz, sc]
  refine r0 7 ?_; simp only [pz, pn, sz, sc]
  refine r0 8 ?_; simp only [pz, pn, sz, sc]
  refine r1 10 ?_; (first | (refine kt hst ta24 rfl rfl ?_; clear hst; intro w hst) | (refine ktm hst ta24 rfl rfl ?_; clear hst; intro w hst)); (try simp only [pz, pn, sz, sc]); refine re ?_
  refine r0 11 ?_; simp only [pz, pn, sz, sc]
  refine rd_ ?_
  rotate_right 2
  all_goals
    go_wp2_with ((first | (refine kb 3 hst rfl rfl ?_; clear hst; intro b3 w hb3 hst) | (refine ka 6 hst tz210 rfl rfl ?_; clear hst; intro b6 w hb6 hst) | (refine kl hst ta24 rfl ?_) | (refine klm hst ta24 rfl ?_) | (refine ka 7 hst tz24 rfl rfl ?_; clear hst; intro b7 w hb7 hst) | (refine kt hst ta24 rfl rfl ?_; clear hst; intro w hst) | (refine ktm hst ta24 rfl rfl ?_; clear hst; intro w hst) | (refine ka 8 hst tz24 rfl rfl ?_; clear hst; intro b8 w hb8 hst) | (refine ka 10 hst tz24 rfl rfl ?_; clear hst; intro b10 w hb10 hst) | (refine kB (tb210_01 _ _) rfl ?_) | (refine kt hst ta210 rfl rfl ?_; clear hst; intro w hst) | (refine ktm hst ta210 rfl rfl ?_; clear hst; intro w hst)); try simp only [pz, pn, sz, sc])
    refine wp_region_T 12  hst (by kernel_rfl) ?_; clear hst; intro w hst; (try dsimp only [List.length_cons, List.length_nil]); (try simp only [List.length_cons, List.length_nil, Nat.reduceAdd, Array.replicate_succ, Array.replicate_zero, List.push_toArray, List.nil_append, List.cons_append])
    refine r0 1 ?_; simp only [pz, pn, sz, sc, w1, w2]
    refine r0 2 ?_; simp only [pz, pn, sz, sc, w1, w2]
    refine r0 4 ?_; simp only [pz, pn, sz, sc, w1, w2]
    refine r0 5 ?_; simp only [pz, pn, sz, sc, w1, w2]
    refine r0 6 ?_; simp only [pz, pn, sz, sc, w1, w2]
    refine rl 0 rfl ?_ (by first | exact ylA ta24 | exact ylM ta24); simp only [pz, pn, sz, sc, w1, w2]
    refine r1 3 ?_; (first | (refine kf gf118 hst (h4) rfl rfl rfl rfl ?_; clear hst; intro w hst) | (refine kf gf171 hst (h5) rfl rfl rfl rfl ?_; clear hst; intro w hst) | (refine kf gf116 hst (h6) rfl rfl rfl rfl ?_; clear hst; intro w hst) | (refine kp ?_)); (try simp only [pz, pn, sz, sc, w1, w2]); refine re ?_
    refine r1 7 ?_; (first | (refine kf gf118 hst (h4) rfl rfl rfl rfl ?_; clear hst; intro w hst) | (refine kf gf171 hst (h5) rfl rfl rfl rfl ?_; clear hst; intro w hst) | (refine kf gf116 hst (h6) rfl rfl rfl rfl ?_; clear hst; intro w hst) | (refine kp ?_)); (try simp only [pz, pn, sz, sc, w1, w2]); refine re ?_
    refine r1 8 ?_; (first | (refine kf gf118 hst (h4) rfl rfl rfl rfl ?_; clear hst; intro w hst) | (refine kf gf171 hst (h5) rfl rfl rfl rfl ?_; clear hst; intro w hst) | (refine kf gf116 hst (h6) rfl rfl rfl rfl ?_; clear hst; intro w hst) | (refine kp ?_)); (try simp only [pz, pn, sz, sc, w1, w2]); refine re ?_
    refine r0 9 ?_; simp only [pz, pn, sz, sc, w1, w2]
    refine r0 10 ?_; simp only [pz, pn, sz, sc, w1, w2]
    refine r0 11 ?_; simp only [pz, pn, sz, sc, w1, w2]
    refine r1 12 ?_; (first | (refine kt hst ta24 rfl rfl ?_; clear hst; intro w hst) | (refine ktm hst ta24 rfl rfl ?_; clear hst; intro w hst)); (try simp only [pz, pn, sz, sc, w1, w2]); refine re ?_
    refine rd_ ?_
    go_wp2_with ((first | (refine kb 3 hst rfl rfl ?_; clear hst; intro b3 w hb3 hst) | (refine ka 6 hst tz210 rfl rfl ?_; clear hst; intro b6 w hb6 hst) | (refine kl hst ta24 rfl ?_) | (refine klm hst ta24 rfl ?_) | (refine ka 7 hst tz24 rfl rfl ?_; clear hst; intro b7 w hb7 hst) | (refine kt hst ta24 rfl rfl ?_; clear hst; intro w hst) | (refine ktm hst ta24 rfl rfl ?_; clear hst; intro w hst) | (refine ka 8 hst tz24 rfl rfl ?_; clear hst; intro b8 w hb8 hst) | (refine ka 10 hst tz24 rfl rfl ?_; clear hst; intro b10 w hb10 hst) | (refine kB (tb210_01 _ _) rfl ?_) | (refine kt hst ta210 rfl rfl ?_; clear hst; intro w hst) | (refine ktm hst ta210 rfl rfl ?_; clear hst; intro w hst)); try simp only [pz, pn, sz, sc])
    refine wp_region_T 11  hst (by kernel_rfl) ?_; clear hst; intro w hst; (try dsimp only [List.length_cons, List.length_nil]); (try simp only [List.length_cons, List.length_nil, Nat.reduceAdd, Array.replicate_succ, Array.replicate_zero, List.push_toArray, List.nil_append, List.cons_append])
    refine r0 0 ?_; simp only [pz, pn, sz, sc]
    refine r0 2 ?_; simp only [pz, pn, sz, sc]
    refine r0 4 ?_; simp only [pz, pn, sz, sc]
    refine rl 1 rfl ?_ (by first | exact ylA ta24 | exact ylM ta24); simp only [pz, pn, sz, sc]
    refine r2 3 10 ?_ ?_
    (first | (refine kf gf118 hst (h7) rfl rfl rfl rfl ?_; clear hst; intro w hst) | (refine kf gf171 hst (h8) rfl rfl rfl rfl ?_; clear hst; intro w hst) | (refine kf gf117 hst (h9) rfl rfl rfl rfl ?_; clear hst; intro w hst) | (refine kp ?_)); (try simp only [pz, pn, sz, sc]); refine re ?_
    refine r2 5 10 ?_ ?_
    (first | (refine kf gf118 hst (h7) rfl rfl rfl rfl ?_; clear hst; intro w hst) | (refine kf gf171 hst (h8) rfl rfl rfl rfl ?_; clear hst; intro w hst) | (refine kf gf117 hst (h9) rfl rfl rfl rfl ?_; clear hst; intro w hst) | (refine kp ?_)); (try simp only [pz, pn, sz, sc]); refine re ?_
    refine r2 6 10 ?_ ?_
    (first | (refine kf gf118 hst (h7) rfl rfl rfl rfl ?_; clear hst; intro w hst) | (refine kf gf171 hst (h8) rfl rfl rfl rfl ?_; clear hst; intro w hst) | (refine kf gf117 hst (h9) rfl rfl rfl rfl ?_; clear hst; intro w hst) | (refine kp ?_)); (try simp only [pz, pn, sz, sc]); refine re ?_
    refine r0 7 ?_; simp only [pz, pn, sz, sc]
    refine r0 8 ?_; simp only [pz, pn, sz, sc]
    refine r0 9 ?_; simp only [pz, pn, sz, sc]
    refine r1 10 ?_; (refine ka 10 hst tz24 rfl rfl ?_; clear hst; intro b10 w hb10 hst); (try simp only [pz, pn, sz, sc]); refine re ?_
    refine r1 11 ?_; (first | (refine kt hst ta24 rfl rfl ?_; clear hst; intro w hst) | (refine ktm hst ta24 rfl rfl ?_; clear hst; intro w hst)); (try simp only [pz, pn, sz, sc]); refine re ?_
    refine r0 12 ?_; simp only [pz, pn, sz, sc]
    refine rd_ ?_
    rotate_left 1
    (refine ka 10 hst tz24 rfl rfl ?_; clear hst; intro b10 w hb10 hst); (try simp only [pz, pn, sz, sc]); refine re ?_
    refine r1 6 ?_; (first | (refine kf gf118 hst (h7) rfl rfl rfl rfl ?_; clear hst; intro w hst) | (refine kf gf171 hst (h8) rfl rfl rfl rfl ?_; clear hst; intro w hst) | (refine kf gf117 hst (h9) rfl rfl rfl rfl ?_; clear hst; intro w hst) | (refine kp ?_)); (try simp only [pz, pn, sz, sc]); refine re ?_
    refine r0 7 ?_; simp only [pz, pn, sz, sc]
    refine r0 8 ?_; simp only [pz, pn, sz, sc]
    refine r0 9 ?_; simp only [pz, pn, sz, sc]
    refine r1 11 ?_; (first | (refine kt hst ta24 rfl rfl ?_; clear hst; intro w hst) | (refine ktm hst ta24 rfl rfl ?_; clear hst; intro w hst)); (try simp only [pz, pn, sz, sc]); refine re ?_
    refine r0 12 ?_; simp only [pz, pn, sz, sc]
    refine rd_ ?_
    rotate_right 1
    rotate_left 2
    (refine ka 10 hst tz24 rfl rfl ?_; clear hst; intro b10 w hb10 hst); (try simp only [pz, pn, sz, sc]); refine re ?_
    refine r1 5 ?_; (first | (refine kf gf118 hst (h7) rfl rfl rfl rfl ?_; clear hst; intro w hst) | (refine kf gf171 hst (h8) rfl rfl rfl rfl ?_; clear hst; intro w hst) | (refine kf gf117 hst (h9) rfl rfl rfl rfl ?_; clear hst; intro w hst) | (refine kp ?_)); (try simp only [pz, pn, sz, sc]); refine re ?_
    refine r1 6 ?_; (first | (refine kf gf118 hst (h7) rfl rfl rfl rfl ?_; clear hst; intro w hst) | (refine kf gf171 hst (h8) rfl rfl rfl rfl ?_; clear hst; intro w hst) | (refine kf gf117 hst (h9) rfl rfl rfl rfl ?_; clear hst; intro w hst) | (refine kp ?_)); (try simp only [pz, pn, sz, sc]); refine re ?_
    refine r0 7 ?_; simp only [pz, pn, sz, sc]
    refine r0 8 ?_; simp only [pz, pn, sz, sc]
    refine r0 9 ?_; simp only [pz, pn, sz, sc]
    refine r1 11 ?_; (first | (refine kt hst ta24 rfl rfl ?_; clear hst; intro w hst) | (refine ktm hst ta24 rfl rfl ?_; clear hst; intro w hst)); (try simp only [pz, pn, sz, sc]); refine re ?_
    refine r0 12 ?_; simp only [pz, pn, sz, sc]
    refine rd_ ?_
    rotate_right 2
    rotate_left 3
    (refine ka 10 hst tz24 rfl rfl ?_; clear hst; intro b10 w hb10 hst); (try simp only [pz, pn, sz, sc]); refine re ?_
    refine r1 3 ?_; (first | (refine kf gf118 hst (h7) rfl rfl rfl rfl ?_; clear hst; intro w hst) | (refine kf gf171 hst (h8) rfl rfl rfl rfl ?_; clear hst; intro w hst) | (refine kf gf117 hst (h9) rfl rfl rfl rfl ?_; clear hst; intro w hst) | (refine kp ?_)); (try simp only [pz, pn, sz, sc]); refine re ?_
    refine r1 5 ?_; (first | (refine kf gf118 hst (h7) rfl rfl rfl rfl ?_; clear hst; intro w hst) | (refine kf gf171 hst (h8) rfl rfl rfl rfl ?_; clear hst; intro w hst) | (refine kf gf117 hst (h9) rfl rfl rfl rfl ?_; clear hst; intro w hst) | (refine kp ?_)); (try simp only [pz, pn, sz, sc]); refine re ?_
    refine r1 6 ?_; (first | (refine kf gf118 hst (h7) rfl rfl rfl rfl ?_; clear hst; intro w hst) | (refine kf gf171 hst (h8) rfl rfl rfl rfl ?_; clear hst; intro w hst) | (refine kf gf117 hst (h9) rfl rfl rfl rfl ?_; clear hst; intro w hst) | (refine kp ?_)); (try simp only [pz, pn, sz, sc]); refine re ?_
    refine r0 7 ?_; simp only [pz, pn, sz, sc]
    refine r0 8 ?_; simp only [pz, pn, sz, sc]
    refine r0 9 ?_; simp only [pz, pn, sz, sc]
    refine r1 11 ?_; (first | (refine kt hst ta24 rfl rfl ?_; clear hst; intro w hst) | (refine ktm hst ta24 rfl rfl ?_; clear hst; intro w hst)); (try simp only [pz, pn, sz, sc]); refine re ?_
    refine r0 12 ?_; simp only [pz, pn, sz, sc]
    refine rd_ ?_
    rotate_right 3
  all_goals
    go_wp2_with ((first | (refine kb 3 hst rfl rfl ?_; clear hst; intro b3 w hb3 hst) | (refine ka 6 hst tz210 rfl rfl ?_; clear hst; intro b6 w hb6 hst) | (refine kl hst ta24 rfl ?_) | (refine klm hst ta24 rfl ?_) | (refine ka 7 hst tz24 rfl rfl ?_; clear hst; intro b7 w hb7 hst) | (refine kt hst ta24 rfl rfl ?_; clear hst; intro w hst) | (refine ktm hst ta24 rfl rfl ?_; clear hst; intro w hst) | (refine ka 8 hst tz24 rfl rfl ?_; clear hst; intro b8 w hb8 hst) | (refine ka 10 hst tz24 rfl rfl ?_; clear hst; intro b10 w hb10 hst) | (refine kB (tb210_01 _ _) rfl ?_) | (refine kt hst ta210 rfl rfl ?_; clear hst; intro w hst) | (refine ktm hst ta210 rfl rfl ?_; clear hst; intro w hst)); try simp only [pz, pn, sz, sc])
    refine bp_c rfl rfl (la hst ta210) ⟨?_, hst.keeps⟩
    rfl

end Go.Proofs.YtmkeaedpfmblgaaGreat.Rd

namespace Go.Proofs.YtmkeaedpfmblgaaGreat.Rd
open Go Go.RowKit
set_option linter.unusedVariables false
set_option linter.unusedSimpArgs false
set_option maxRecDepth 100000

theorem srtroot_Root_1 (j d : Int) (p l : Int) (c1 : Nat) (cs : Array Value) (hcs : cs.size = 16) (E1 : TypeId) (w0 : World) (h1 : w0.heap[c1]? = some (.cells cs E1)) :
    GivesT Tryz.prog 147 #[.int .i64 j, .int .i64 d, .agg (farC p l), .pointer (some ⟨c1, 0, none⟩)] (.bool true) [(c1, .cells cs E1)] [(c1, .cells (farC p l) E1)] w0 := by
  have hst := (St.start [c1] w0).add h1 (by simp)
  have k1 := farC_size p l
  have k2 := farC_one p l
  generalize farC p l = f at *
  clear h1
  go_enter Tryz.func147, Tryz.ntmps147
  go_wp2_with ((first | (refine kb 6 hst rfl rfl ?_; clear hst; intro b6 w hb6 hst) | (refine kl hst ta210 rfl ?_) | (refine klm hst ta210 rfl ?_) | (refine kt hst ta210 rfl rfl ?_; clear hst; intro w hst) | (refine ktm hst ta210 rfl rfl ?_; clear hst; intro w hst)); try simp only [pz, pn, sz, sc])
  exact bp_t rfl rfl (by rfl) (GivesT.of hst rfl (by simp))

theorem sq_next (n p a d e f : Int) (he : e = a * 2) (hf : f = a * a) : n - (p + d * a) * (p + d * a) = n - p * p - p * e * d - f * (d * d) := by
  subst he; subst hf; grind
theorem pow_cast (c : Nat) : ((2 ^ c : Nat) : Int) = 2 ^ c := by simp

set_option maxHeartbeats 8000000 in
theorem srtroot_run (n c1 : Nat) (cs : Array Value) (hcs : cs.size = 16) (h1 : (2 : Int) ^ 254 ≤ (n : Int)) (h2 : (n : Int) < 2 ^ 256) (hn : n < M) (E1 : TypeId) (w0 : World) (hc1 : w0.heap[c1]? = some (.cells cs E1)) :
    GivesT Tryz.prog 146 #[W n, .func (.func 147) #[] #[.pointer (some ⟨c1, 0, none⟩)]] (.tuple #[]) [(c1, .cells cs E1)] [(c1, .cells (farC (sp n 64) ((n : Int) - sp n 64 * sp n 64)) E1)] w0 := by
  have hst := (St.start [c1] w0).add hc1 (by simp)
  have hbeg := srtroot_begin n hn
  rw [show ((2 ^ 256 : Nat) : Int) = ((2 ^ 128 : Nat) : Int) * ((2 ^ 128 : Nat) : Int) by decide, show ((2 ^ 128 : Nat) : Int) = sp n 0 by simp [sp]] at hbeg
  have hinv := Lib.hid (sp_inv n h1 h2)
  have h1' := Lib.hid h1
  have h2' := Lib.hid h2
  have z0 := farC_size (sp n 0) ((n : Int) - sp n 0 * sp n 0)
  have z1 := farC_one (sp n 0) ((n : Int) - sp n 0 * sp n 0)
  obtain ⟨f0, hf0⟩ : ∃ f0, f0 = farC (sp n 0) ((n : Int) - sp n 0 * sp n 0) := ⟨_, rfl⟩
  rw [← hf0] at hbeg z0 z1
  have hf0' := Lib.hid hf0
  clear hc1 h1 h2 hf0
  go_enter Tryz.func146, Tryz.ntmps146
  go_wp2_with ((first | (refine kf gf159 hst (hbeg) rfl rfl rfl rfl ?_; clear hst; intro w hst) | (refine kb 2 hst rfl rfl ?_; clear hst; intro b2 w hb2 hst) | (refine kl hst ta24 rfl ?_) | (refine klm hst ta24 rfl ?_) | (refine ka 4 hst tz210 rfl rfl ?_; clear hst; intro b4 w hb4 hst) | (refine kt hst ta210 rfl rfl ?_; clear hst; intro w hst) | (refine ktm hst ta210 rfl rfl ?_; clear hst; intro w hst) | (refine ka 6 hst tz24 rfl rfl ?_; clear hst; intro b6 w hb6 hst) | (refine kt hst ta24 rfl rfl ?_; clear hst; intro w hst) | (refine ktm hst ta24 rfl rfl ?_; clear hst; intro w hst) | (refine kl hst ta210 rfl ?_) | (refine klm hst ta210 rfl ?_)); try simp only [pz, pn, sz, sc])
  go_step3
  go_wp2_with ((first | (refine kf gf159 hst (hbeg) rfl rfl rfl rfl ?_; clear hst; intro w hst) | (refine kb 2 hst rfl rfl ?_; clear hst; intro b2 w hb2 hst) | (refine kl hst ta24 rfl ?_) | (refine klm hst ta24 rfl ?_) | (refine ka 4 hst tz210 rfl rfl ?_; clear hst; intro b4 w hb4 hst) | (refine kt hst ta210 rfl rfl ?_; clear hst; intro w hst) | (refine ktm hst ta210 rfl rfl ?_; clear hst; intro w hst) | (refine ka 6 hst tz24 rfl rfl ?_; clear hst; intro b6 w hb6 hst) | (refine kt hst ta24 rfl rfl ?_; clear hst; intro w hst) | (refine ktm hst ta24 rfl rfl ?_; clear hst; intro w hst) | (refine kl hst ta210 rfl ?_) | (refine klm hst ta210 rfl ?_)); try simp only [pz, pn, sz, sc])
  go_step3
  go_wp2_with ((first | (refine kb 2 hst rfl rfl ?_; clear hst; intro b2 w hb2 hst) | (refine kl hst ta24 rfl ?_) | (refine klm hst ta24 rfl ?_) | (refine ka 4 hst tz210 rfl rfl ?_; clear hst; intro b4 w hb4 hst) | (refine kt hst ta210 rfl rfl ?_; clear hst; intro w hst) | (refine ktm hst ta210 rfl rfl ?_; clear hst; intro w hst) | (refine ka 6 hst tz24 rfl rfl ?_; clear hst; intro b6 w hb6 hst) | (refine kt hst ta24 rfl rfl ?_; clear hst; intro w hst) | (refine ktm hst ta24 rfl rfl ?_; clear hst; intro w hst) | (refine kl hst ta210 rfl ?_) | (refine klm hst ta210 rfl ?_)); try simp only [pz, pn, sz, sc])
  rw [hf0'.out] at hst
  clear z0 z1 hf0' hbeg
  go_loopw [5, 12] (fun u i wr => ∃ (k : Nat) (ck : Array Value), k ≤ 64 ∧ i = .int .i64 k ∧ ck.size = 16 ∧ (k = 64 → ck = farC (sp n 64) ((n : Int) - sp n 64 * sp n 64)) ∧
    St w0 [c1] [(b4, .cells (farC (sp n k) ((n : Int) - sp n k * sp n k)) 210), (c1, .cells ck E1)] wr) (fun _ i _ => 64 - (intOf i).toNat)
  case atStart => exact ⟨0, cs, by omega, rfl, hcs, fun h => absurd h (by omega), hst.sub (by repeat (first | exact List.Sublist.refl _ | exact List.nil_sublist _ | refine List.Sublist.cons_cons _ ?_ | refine List.Sublist.cons _ ?_))⟩
  case round =>
    clear hst hcs
    obtain ⟨k, ck, hk, rfl, hck, hck64, hst⟩ := hrel
    by_cases hlt : k < 64
    · have hi0 : (0 : Int) ≤ (k : Int) := by omega
      have hi8 : (k : Int) < 64 := by omega
      have hI := hinv.out k hk
      have hy := sp_y n k hlt (sp n k) hI
      have hsm := sp_small n h1'.out h2'.out (sp n k) hI.2.2.1 hI.2.2.2.1
      obtain ⟨pm, hpn⟩ : ∃ pm : Nat, sp n k = (pm : Int) := Int.eq_ofNat_of_zero_le (Int.le_trans (show (0 : Int) ≤ 2 ^ 127 by decide) hI.2.2.1)
      have hs1 : 28 ≤ sp n k / 2 ^ 122 := by
        apply (Int.le_ediv_iff_mul_le (by decide)).2
        exact Int.le_trans (by decide) hI.2.2.1
      have hs2 : sp n k / 2 ^ 122 ≤ 64 := by
        apply Int.le_of_lt_add_one
        apply (Int.ediv_lt_iff_lt_mul (by decide)).2
        exact Int.lt_of_le_of_lt hI.2.2.2.1 (by decide)
      have hpM : pm < M := small_M (by
        have : (pm : Int) ≤ 2 ^ 128 := hpn ▸ hI.2.2.2.1
        have h4 : ((2 ^ 128 : Nat) : Int) = 2 ^ 128 := by simp
        rw [← h4] at this
        exact Nat.lt_of_le_of_lt (Int.ofNat_le.1 this) (by decide))
      have hshr := wide_Shr (toW (sp n k)) 122 (toW_lt _)
      rw [show clampN 122 = 122 from rfl] at hshr
      have hq : toW (sp n k) / 2 ^ 122 = toW (sp n k / 2 ^ 122) := by
        rw [hpn, toW_nat pm hpM, show ((pm : Int) / 2 ^ 122) = ((pm / 2 ^ 122 : Nat) : Int) by rw [Int.natCast_ediv]; simp, toW_nat _ (Nat.lt_of_le_of_lt (Nat.div_le_self _ _) hpM)]
      rw [hq] at hshr
      have hsmall1 := srtroot_small (sp n k / 2 ^ 122) (by omega) (by omega)
      have hHM : (2 : Int) ^ 256 ≤ (HM : Int) := by
        have : ∀ m, 511 = m → 2 ^ 256 ≤ HM := fun m e => by rw [HM_two m e]; exact Nat.pow_le_pow_right (by omega) (by omega)
        have := Int.ofNat_le.2 (this 511 rfl)
        rwa [show ((2 ^ 256 : Nat) : Int) = 2 ^ 256 by simp] at this
      have hsar := wide_Sar (toW ((n : Int) - sp n k * sp n k)) (248 - 2 * (k : Int)) (toW_lt _)
      rw [show (248 - 2 * (k : Int)) = ((248 - 2 * k : Nat) : Int) by omega, clampN_nat _ (by omega), sar_toW _ _ (by omega) (by omega), pow_cast] at hsar
      rw [show ((248 - 2 * k : Nat) : Int) = (248 - 2 * (k : Int)) by omega] at hsar
      have hsmall2 := srtroot_small (((n : Int) - sp n k * sp n k) / 2 ^ (248 - 2 * k)) hy.1 hy.2
      have hdig := table_RootDigit k (sp n k / 2 ^ 122) (((n : Int) - sp n k * sp n k) / 2 ^ (248 - 2 * k)) hs1 hs2
      obtain ⟨_, hd1, hd2⟩ := sp_step n h1'.out h2'.out k hlt (sp n k) hI _ rfl
      have hnext := srtroot_next (sp n k) ((n : Int) - sp n k * sp n k) (rdig k (sp n k / 2 ^ 122) (((n : Int) - sp n k * sp n k) / 2 ^ (248 - 2 * k))) (sp n (k + 1)) ((n : Int) - sp n (k + 1) * sp n (k + 1)) (126 - 2 * k) (by omega) hd1 hd2
        (by rw [pow_cast, Int.mul_comm]; rfl)
        (by
          have e : sp n (k + 1) = sp n k + rdig k (sp n k / 2 ^ 122) (((n : Int) - sp n k * sp n k) / 2 ^ (248 - 2 * k)) * 2 ^ (126 - 2 * k) := rfl
          rw [e]
          exact sq_next _ _ _ _ _ _ (by rw [pow_cast, Int.pow_succ]) (by rw [pow_cast, Nat.mul_comm 2 (126 - 2 * k), Int.pow_mul, Int.pow_succ, Int.pow_succ, Int.pow_zero, Int.one_mul]))
      rw [show ((126 - 2 * k : Nat) : Int) = 2 * (63 - (k : Int)) by omega] at hnext
      have hcb := fun (w : World) (q : w.heap[c1]? = some (.cells ck E1)) => srtroot_Root_1 k (rdig k (sp n k / 2 ^ 122) (((n : Int) - sp n k * sp n k) / 2 ^ (248 - 2 * k))) (sp n (k + 1)) ((n : Int) - sp n (k + 1) * sp n (k + 1)) c1 ck hck E1 w q
      have w1 : IntKind.i64.wrap (2 * (k : Int)) = 2 * (k : Int) := i64w _ (by omega) (by omega)
      have w2 : IntKind.i64.wrap (248 - 2 * (k : Int)) = 248 - 2 * (k : Int) := i64w _ (by omega) (by omega)
      clear hI hy hsm hpn hs1 hs2 hpM hq hHM hd1 hd2 hck64
      generalize rdig k (sp n k / 2 ^ 122) (((n : Int) - sp n k * sp n k) / 2 ^ (248 - 2 * k)) = d at *
      generalize toW (((n : Int) - sp n k * sp n k) / 2 ^ (248 - 2 * k)) = x1 at *
      generalize ((n : Int) - sp n k * sp n k) / 2 ^ (248 - 2 * k) = y at *
      generalize toW (sp n k / 2 ^ 122) = x2 at *
      generalize sp n k / 2 ^ 122 = s at *
      have z2 := farC_size (sp n k) ((n : Int) - sp n k * sp n k)
      have z3 := farC_one (sp n k) ((n : Int) - sp n k * sp n k)
      have z4 := farC_size (sp n (k + 1)) ((n : Int) - sp n (k + 1) * sp n (k + 1))
      have z5 := farC_one (sp n (k + 1)) ((n : Int) - sp n (k + 1) * sp n (k + 1))
      go_wp2_with ((first | (refine kf gf144 hst (hshr) rfl rfl rfl rfl ?_; clear hst; intro w hst) | (refine kb 2 hst rfl rfl ?_; clear hst; intro b2 w hb2 hst) | (refine kl hst ta24 rfl ?_) | (refine klm hst ta24 rfl ?_) | (refine ka 4 hst tz210 rfl rfl ?_; clear hst; intro b4 w hb4 hst) | (refine kt hst ta210 rfl rfl ?_; clear hst; intro w hst) | (refine ktm hst ta210 rfl rfl ?_; clear hst; intro w hst) | (refine ka 6 hst tz24 rfl rfl ?_; clear hst; intro b6 w hb6 hst) | (refine kt hst ta24 rfl rfl ?_; clear hst; intro w hst) | (refine ktm hst ta24 rfl rfl ?_; clear hst; intro w hst) | (refine kl hst ta210 rfl ?_) | (refine klm hst ta210 rfl ?_)); try simp only [pz, pn, sz, sc])
      refine wp_region_T 16  hst (by kernel_rfl) ?_; clear hst; intro w hst; (try dsimp only [List.length_cons, List.length_nil]); (try simp only [List.length_cons, List.length_nil, Nat.reduceAdd, Array.replicate_succ, Array.replicate_zero, List.push_toArray, List.nil_append, List.cons_append])
      refine r0 0 ?_; simp only [pz, pn, sz, sc, w1, w2]
      refine r0 3 ?_; simp only [pz, pn, sz, sc, w1, w2]
      refine r0 5 ?_; simp only [pz, pn, sz, sc, w1, w2]
      refine r0 6 ?_; simp only [pz, pn, sz, sc, w1, w2]
      refine r0 7 ?_; simp only [pz, pn, sz, sc, w1, w2]
      refine rl 1 rfl ?_ (by first | exact ylA ta24 | exact ylM ta24); simp only [pz, pn, sz, sc, w1, w2]
      refine rl 4 rfl ?_ (by first | exact ylA ta24 | exact ylM ta24); simp only [pz, pn, sz, sc, w1, w2]
      refine r1 2 ?_; (first | (refine kf gf161 hst (hsmall1) rfl rfl rfl rfl ?_; clear hst; intro w hst) | (refine kf gf152 hst (hsar) rfl rfl rfl rfl ?_; clear hst; intro w hst) | (refine kf gf161 hst (hsmall2) rfl rfl rfl rfl ?_; clear hst; intro w hst) | (refine kf gf160 hst (hdig) rfl rfl rfl rfl ?_; clear hst; intro w hst) | (refine kp ?_)); (try simp only [pz, pn, sz, sc, w1, w2]); refine re ?_
      refine r1 8 ?_; (first | (refine kf gf161 hst (hsmall1) rfl rfl rfl rfl ?_; clear hst; intro w hst) | (refine kf gf152 hst (hsar) rfl rfl rfl rfl ?_; clear hst; intro w hst) | (refine kf gf161 hst (hsmall2) rfl rfl rfl rfl ?_; clear hst; intro w hst) | (refine kf gf160 hst (hdig) rfl rfl rfl rfl ?_; clear hst; intro w hst) | (refine kp ?_)); (try simp only [pz, pn, sz, sc, w1, w2]); refine re ?_
      refine r1 9 ?_; (first | (refine kf gf161 hst (hsmall1) rfl rfl rfl rfl ?_; clear hst; intro w hst) | (refine kf gf152 hst (hsar) rfl rfl rfl rfl ?_; clear hst; intro w hst) | (refine kf gf161 hst (hsmall2) rfl rfl rfl rfl ?_; clear hst; intro w hst) | (refine kf gf160 hst (hdig) rfl rfl rfl rfl ?_; clear hst; intro w hst) | (refine kp ?_)); (try simp only [pz, pn, sz, sc, w1, w2]); refine re ?_
      refine r1 10 ?_; (first | (refine kf gf161 hst (hsmall1) rfl rfl rfl rfl ?_; clear hst; intro w hst) | (refine kf gf152 hst (hsar) rfl rfl rfl rfl ?_; clear hst; intro w hst) | (refine kf gf161 hst (hsmall2) rfl rfl rfl rfl ?_; clear hst; intro w hst) | (refine kf gf160 hst (hdig) rfl rfl rfl rfl ?_; clear hst; intro w hst) | (refine kp ?_)); (try simp only [pz, pn, sz, sc, w1, w2]); refine re ?_
      refine r0 11 ?_; simp only [pz, pn, sz, sc, w1, w2]
      refine r0 12 ?_; simp only [pz, pn, sz, sc, w1, w2]
      refine r0 13 ?_; simp only [pz, pn, sz, sc, w1, w2]
      refine r0 14 ?_; simp only [pz, pn, sz, sc, w1, w2]
      refine r0 15 ?_; simp only [pz, pn, sz, sc, w1, w2]
      refine rd_ ?_
      go_wp2_with ((first | (refine kf gf162 hst (hnext) rfl rfl rfl rfl ?_; clear hst; intro w hst) | (refine kT gf147 hst (fun w hst => hcb w (hst.own _ _ (by simp))) rfl rfl rfl rfl ?_; clear hst; intro w hst) | (refine kb 2 hst rfl rfl ?_; clear hst; intro b2 w hb2 hst) | (refine kl hst ta24 rfl ?_) | (refine klm hst ta24 rfl ?_) | (refine ka 4 hst tz210 rfl rfl ?_; clear hst; intro b4 w hb4 hst) | (refine kt hst ta210 rfl rfl ?_; clear hst; intro w hst) | (refine ktm hst ta210 rfl rfl ?_; clear hst; intro w hst) | (refine ka 6 hst tz24 rfl rfl ?_; clear hst; intro b6 w hb6 hst) | (refine kt hst ta24 rfl rfl ?_; clear hst; intro w hst) | (refine ktm hst ta24 rfl rfl ?_; clear hst; intro w hst) | (refine kl hst ta210 rfl ?_) | (refine klm hst ta210 rfl ?_)); try simp only [pz, pn, sz, sc])
      exact ⟨⟨k + 1, _, by omega, by go_num, z4, fun h => by rw [h], hst.sub (by repeat (first | exact List.Sublist.refl _ | exact List.nil_sublist _ | refine List.Sublist.cons_cons _ ?_ | refine List.Sublist.cons _ ?_))⟩, by simp [intOf]; omega⟩
    · have : k = 64 := by omega
      subst this
      have e := hck64 rfl
      subst e
      clear hck64 hck
      go_wp2_with ((first | (refine kb 2 hst rfl rfl ?_; clear hst; intro b2 w hb2 hst) | (refine kl hst ta24 rfl ?_) | (refine klm hst ta24 rfl ?_) | (refine ka 4 hst tz210 rfl rfl ?_; clear hst; intro b4 w hb4 hst) | (refine kt hst ta210 rfl rfl ?_; clear hst; intro w hst) | (refine ktm hst ta210 rfl rfl ?_; clear hst; intro w hst) | (refine ka 6 hst tz24 rfl rfl ?_; clear hst; intro b6 w hb6 hst) | (refine kt hst ta24 rfl rfl ?_; clear hst; intro w hst) | (refine ktm hst ta24 rfl rfl ?_; clear hst; intro w hst) | (refine kl hst ta210 rfl ?_) | (refine klm hst ta210 rfl ?_)); try simp only [pz, pn, sz, sc])
      rw [Exit.noGoto_normal]
      exact bp_0 rfl rfl (GivesT.of hst rfl (by simp))

end Go.Proofs.YtmkeaedpfmblgaaGreat.Rd
