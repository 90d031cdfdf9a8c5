/- What srtroot.far.next, Root$1, run answer. -/
import Derived.Test.YtggchelniblipaaGreatDoorJ10
namespace Go.Proofs.YtggchelniblipaaGreatDoor.Rd
open Go Go.RowKit
set_option linter.unusedVariables false
set_option linter.unusedSimpArgs false
set_option maxRecDepth 100000

theorem toW_shl (z : Int) (c : Nat) (hc : c ≤ 512) : Gives Tryz.prog 94 #[W (toW z), .int .i64 (c : Int)] (W (toW (z * (2 ^ c : Nat)))) := by
  have h := wide_Shl (toW z) (c : Int) (toW_lt z)
  rw [clampN_nat c hc, toW_mul] at h
  exact h
theorem toW_power (c : Nat) (hc : c < 512) : Gives Tryz.prog 97 #[.int .i64 (c : Int)] (W (toW ((2 ^ c : Nat) : Int))) := by
  have h := wide_Power (c : Int)
  rw [show pow2 (c : Int) = toW ((2 ^ c : Nat) : Int) by rw [toW_pow c hc]; unfold pow2; rw [if_pos (by omega)]; rfl] at h
  exact h
theorem toW_Sub (a b : Int) : ∃ c, Gives Tryz.prog 95 #[W (toW a), W (toW b)] (.tuple #[W (toW (a - b)), .bool c]) := by
  have h := wide_Sub (toW a) (toW b) (toW_lt a) (toW_lt b)
  rw [toW_sub] at h
  exact ⟨_, h⟩
theorem toW_Add (a b : Int) : ∃ c, Gives Tryz.prog 96 #[W (toW a), W (toW b)] (.tuple #[W (toW (a + b)), .bool c]) := by
  have h := wide_Add (toW a) (toW b) (toW_lt a) (toW_lt b)
  rw [toW_add] at h
  exact ⟨_, h⟩

set_option maxHeartbeats 8000000 in
theorem srtroot_next (p l d p' l' : Int) (c : Nat) (hc : c ≤ 200) (hd1 : -2 ≤ d) (hd2 : d ≤ 2) (hp : p' = p + (2 ^ c : Nat) * d) (hl : l' = l - p * (2 ^ (c + 1) : Nat) * d - (2 ^ (2 * c) : Nat) * (d * d)) :
    Gives Tryz.prog 141 #[.agg (farC p l), .int .i64 d, .int .i64 (c : Int)] (.agg (farC p' l')) := by
  intro w0
  have hst := St.start [] w0
  have hdd : 0 ≤ d * d ∧ d * d ≤ 4 := by
    have : d = -2 ∨ d = -1 ∨ d = 0 ∨ d = 1 ∨ d = 2 := by omega
    rcases this with rfl | rfl | rfl | rfl | rfl <;> decide
  have h1 := toW_shl p (c + 1) (by omega)
  rw [show ((c + 1 : Nat) : Int) = (c : Int) + 1 by omega] at h1
  have h2 := srtroot_times (p * (2 ^ (c + 1) : Nat)) d (by omega) (by omega)
  obtain ⟨s1, h3⟩ := toW_Sub l (p * (2 ^ (c + 1) : Nat) * d)
  have h4 := toW_power (2 * c) (by omega)
  rw [show ((2 * c : Nat) : Int) = 2 * (c : Int) by omega] at h4
  have h5 := srtroot_times ((2 ^ (2 * c) : Nat) : Int) (d * d) (by omega) (by omega)
  obtain ⟨s2, h6⟩ := toW_Sub (l - p * (2 ^ (c + 1) : Nat) * d) (((2 ^ (2 * c) : Nat) : Int) * (d * d))
  rw [← hl] at h6
  have h7 := toW_power c (by omega)
  have h8 := srtroot_times ((2 ^ c : Nat) : Int) d (by omega) (by omega)
  obtain ⟨s3, h9⟩ := toW_Add p (((2 ^ c : Nat) : Int) * d)
  rw [← hp] at h9
  have w1 : IntKind.i64.wrap (2 * (c : Int)) = 2 * (c : Int) := i64w _ (by omega) (by omega)
  have w2 : IntKind.i64.wrap (d * d) = d * d := i64w _ (by omega) (by omega)
  unfold farC
  clear hp hl
  generalize toW ((2 ^ (2 * c) : Nat) : Int) = x1 at *
  generalize toW ((2 ^ c : Nat) : Int) = x2 at *
  generalize toW (p * (2 ^ (c + 1) : Nat)) = x3 at *
  generalize toW (p * (2 ^ (c + 1) : Nat) * d) = x4 at *
  generalize toW (l - p * (2 ^ (c + 1) : Nat) * d) = x5 at *
  generalize toW (((2 ^ (2 * c) : Nat) : Int) * (d * d)) = x6 at *
  generalize toW (((2 ^ c : Nat) : Int) * d) = x7 at *
  generalize toW p = y1 at *
  generalize toW l = y2 at *
  generalize toW p' = y3 at *
  generalize toW l' = y4 at *
  have k1 : (wc 8 y1 ++ wc 8 y2).size = 16 := by simp
  have k2 : (wc 8 y3 ++ wc 8 y4).size = 16 := by simp
  have k3 := app_one y3 y4
  go_enter Tryz.func141, Tryz.ntmps141
  go_wp2_with ((first | (refine kf gf94 hst (h1) rfl rfl rfl rfl ?_; clear hst; intro w hst) | (refine kb 3 hst rfl rfl ?_; clear hst; intro b3 w hb3 hst) | (refine ka 6 hst tz193 rfl rfl ?_; clear hst; intro b6 w hb6 hst) | (refine kl hst ta24 rfl ?_) | (refine klm hst ta24 rfl ?_) | (refine ka 7 hst tz24 rfl rfl ?_; clear hst; intro b7 w hb7 hst) | (refine kt hst ta24 rfl rfl ?_; clear hst; intro w hst) | (refine ktm hst ta24 rfl rfl ?_; clear hst; intro w hst) | (refine ka 8 hst tz24 rfl rfl ?_; clear hst; intro b8 w hb8 hst) | (refine ka 10 hst tz24 rfl rfl ?_; clear hst; intro b10 w hb10 hst) | (refine kB (tb193_01 _ _) rfl ?_) | (refine kt hst ta193 rfl rfl ?_; clear hst; intro w hst) | (refine ktm hst ta193 rfl rfl ?_; clear hst; intro w hst)); try simp only [pz, pn, sz, sc])
  refine wp_region_T 10  hst (by kernel_rfl) ?_; clear hst; intro w hst; (try dsimp only [List.length_cons, List.length_nil]); (try simp only [List.length_cons, List.length_nil, Nat.reduceAdd, Array.replicate_succ, Array.replicate_zero, List.push_toArray, List.nil_append, List.cons_append])
  refine r0 0 ?_; simp only [pz, pn, sz, sc]
  refine r0 3 ?_; simp only [pz, pn, sz, sc]
  refine rl 1 rfl ?_ (by first | exact ylA ta24 | exact ylM ta24); simp only [pz, pn, sz, sc]
  refine rl 2 rfl ?_ (by first | exact ylA ta24 | exact ylM ta24); simp only [pz, pn, sz, sc]
  refine r2 4 9 ?_ ?_
  (first | (refine kf gf150 hst (h2) rfl rfl rfl rfl ?_; clear hst; intro w hst) | (refine kf gf95 hst (h3) rfl rfl rfl rfl ?_; clear hst; intro w hst) | (refine kp ?_)); (try simp only [pz, pn, sz, sc]); refine re ?_
  refine r2 5 9 ?_ ?_
  (first | (refine kf gf150 hst (h2) rfl rfl rfl rfl ?_; clear hst; intro w hst) | (refine kf gf95 hst (h3) rfl rfl rfl rfl ?_; clear hst; intro w hst) | (refine kp ?_)); (try simp only [pz, pn, sz, sc]); refine re ?_
  refine r0 6 ?_; simp only [pz, pn, sz, sc]
  refine r0 7 ?_; simp only [pz, pn, sz, sc]
  refine r0 8 ?_; simp only [pz, pn, sz, sc]
  refine r1 9 ?_; (refine ka 8 hst tz24 rfl rfl ?_; clear hst; intro b8 w hb8 hst); (try simp only [pz, pn, sz, sc]); refine re ?_
  refine r1 10 ?_; (first | (refine kt hst ta24 rfl rfl ?_; clear hst; intro w hst) | (refine ktm hst ta24 rfl rfl ?_; clear hst; intro w hst)); (try simp only [pz, pn, sz, sc]); refine re ?_
  refine r0 11 ?_; simp only [pz, pn, sz, sc]
  refine rd_ ?_
  rotate_left 1
  (refine ka 8 hst tz24 rfl rfl ?_; clear hst; intro b8 w hb8 hst); (try simp only [pz, pn, sz, sc]); refine re ?_
  refine r1 5 ?_; (first | (refine kf gf150 hst (h2) rfl rfl rfl rfl ?_; clear hst; intro w hst) | (refine kf gf95 hst (h3) rfl rfl rfl rfl ?_; clear hst; intro w hst) | (refine kp ?_)); (try simp only [pz, pn, sz, sc]); refine re ?_
  refine r0 6 ?_; simp only [pz, pn, sz, sc]
  refine r0 7 ?_; simp only [pz, pn, sz, sc]
  refine r0 8 ?_; simp only [pz, pn, sz, sc]
  refine r1 10 ?_; (first | (refine kt hst ta24 rfl rfl ?_; clear hst; intro w hst) | (refine ktm hst ta24 rfl rfl ?_; clear hst; intro w hst)); (try simp only [pz, pn, sz, sc]); refine re ?_
  refine r0 11 ?_; simp only [pz, pn, sz, sc]
  refine rd_ ?_
  rotate_right 1
  rotate_left 2
  (refine ka 8 hst tz24 rfl rfl ?_; clear hst; intro b8 w hb8 hst); (try simp only [pz, pn, sz, sc]); refine re ?_
  refine r1 4 ?_; (first | (refine kf gf150 hst (h2) rfl rfl rfl rfl ?_; clear hst; intro w hst) | (refine kf gf95 hst (h3) rfl rfl rfl rfl ?_; clear hst; intro w hst) | (refine kp ?_)); (try simp only [pz, pn, sz, sc]); refine re ?_
  refine r1 5 ?_; (first | (refine kf gf150 hst (h2) rfl rfl rfl rfl ?_; clear hst; intro w hst) | (refine kf gf95 hst (h3) rfl rfl rfl rfl ?_; clear hst; intro w hst) | (refine kp ?_)); (try simp only [pz, pn, sz, sc]); refine re ?_
  refine r0 6 ?_; simp only [pz, pn, sz, sc]
  refine r0 7 ?_; simp only [pz, pn, sz, sc]
  refine r0 8 ?_; simp only [pz, pn, sz, sc]
  refine r1 10 ?_; (first | (refine kt hst ta24 rfl rfl ?_; clear hst; intro w hst) | (refine ktm hst ta24 rfl rfl ?_; clear hst; intro w hst)); (try simp only [pz, pn, sz, sc]); refine re ?_
  refine r0 11 ?_; simp only [pz, pn, sz, sc]
  refine rd_ ?_
  rotate_right 2
  all_goals
    go_wp2_with ((first | (refine kb 3 hst rfl rfl ?_; clear hst; intro b3 w hb3 hst) | (refine ka 6 hst tz193 rfl rfl ?_; clear hst; intro b6 w hb6 hst) | (refine kl hst ta24 rfl ?_) | (refine klm hst ta24 rfl ?_) | (refine ka 7 hst tz24 rfl rfl ?_; clear hst; intro b7 w hb7 hst) | (refine kt hst ta24 rfl rfl ?_; clear hst; intro w hst) | (refine ktm hst ta24 rfl rfl ?_; clear hst; intro w hst) | (refine ka 8 hst tz24 rfl rfl ?_; clear hst; intro b8 w hb8 hst) | (refine ka 10 hst tz24 rfl rfl ?_; clear hst; intro b10 w hb10 hst) | (refine kB (tb193_01 _ _) rfl ?_) | (refine kt hst ta193 rfl rfl ?_; clear hst; intro w hst) | (refine ktm hst ta193 rfl rfl ?_; clear hst; intro w hst)); try simp only [pz, pn, sz, sc])
    refine wp_region_T 12  hst (by kernel_rfl) ?_; clear hst; intro w hst; (try dsimp only [List.length_cons, List.length_nil]); (try simp only [List.length_cons, List.length_nil, Nat.reduceAdd, Array.replicate_succ, Array.replicate_zero, List.push_toArray, List.nil_append, List.cons_append])
    refine r0 1 ?_; simp only [pz, pn, sz, sc, w1, w2]
    refine r0 2 ?_; simp only [pz, pn, sz, sc, w1, w2]
    refine r0 4 ?_; simp only [pz, pn, sz, sc, w1, w2]
    refine r0 5 ?_; simp only [pz, pn, sz, sc, w1, w2]
    refine r0 6 ?_; simp only [pz, pn, sz, sc, w1, w2]
    refine rl 0 rfl ?_ (by first | exact ylA ta24 | exact ylM ta24); simp only [pz, pn, sz, sc, w1, w2]
    refine r1 3 ?_; (first | (refine kf gf97 hst (h4) rfl rfl rfl rfl ?_; clear hst; intro w hst) | (refine kf gf150 hst (h5) rfl rfl rfl rfl ?_; clear hst; intro w hst) | (refine kf gf95 hst (h6) rfl rfl rfl rfl ?_; clear hst; intro w hst) | (refine kp ?_)); (try simp only [pz, pn, sz, sc, w1, w2]); refine re ?_
    refine r1 7 ?_; (first | (refine kf gf97 hst (h4) rfl rfl rfl rfl ?_; clear hst; intro w hst) | (refine kf gf150 hst (h5) rfl rfl rfl rfl ?_; clear hst; intro w hst) | (refine kf gf95 hst (h6) rfl rfl rfl rfl ?_; clear hst; intro w hst) | (refine kp ?_)); (try simp only [pz, pn, sz, sc, w1, w2]); refine re ?_
    refine r1 8 ?_; (first | (refine kf gf97 hst (h4) rfl rfl rfl rfl ?_; clear hst; intro w hst) | (refine kf gf150 hst (h5) rfl rfl rfl rfl ?_; clear hst; intro w hst) | (refine kf gf95 hst (h6) rfl rfl rfl rfl ?_; clear hst; intro w hst) | (refine kp ?_)); (try simp only [pz, pn, sz, sc, w1, w2]); refine re ?_
    refine r0 9 ?_; simp only [pz, pn, sz, sc, w1, w2]
    refine r0 10 ?_; simp only [pz, pn, sz, sc, w1, w2]
    refine r0 11 ?_; simp only [pz, pn, sz, sc, w1, w2]
    refine r1 12 ?_; (first | (refine kt hst ta24 rfl rfl ?_; clear hst; intro w hst) | (refine ktm hst ta24 rfl rfl ?_; clear hst; intro w hst)); (try simp only [pz, pn, sz, sc, w1, w2]); refine re ?_
    refine rd_ ?_
    go_wp2_with ((first | (refine kb 3 hst rfl rfl ?_; clear hst; intro b3 w hb3 hst) | (refine ka 6 hst tz193 rfl rfl ?_; clear hst; intro b6 w hb6 hst) | (refine kl hst ta24 rfl ?_) | (refine klm hst ta24 rfl ?_) | (refine ka 7 hst tz24 rfl rfl ?_; clear hst; intro b7 w hb7 hst) | (refine kt hst ta24 rfl rfl ?_; clear hst; intro w hst) | (refine ktm hst ta24 rfl rfl ?_; clear hst; intro w hst) | (refine ka 8 hst tz24 rfl rfl ?_; clear hst; intro b8 w hb8 hst) | (refine ka 10 hst tz24 rfl rfl ?_; clear hst; intro b10 w hb10 hst) | (refine kB (tb193_01 _ _) rfl ?_) | (refine kt hst ta193 rfl rfl ?_; clear hst; intro w hst) | (refine ktm hst ta193 rfl rfl ?_; clear hst; intro w hst)); try simp only [pz, pn, sz, sc])
    refine wp_region_T 11  hst (by kernel_rfl) ?_; clear hst; intro w hst; (try dsimp only [List.length_cons, List.length_nil]); (try simp only [List.length_cons, List.length_nil, Nat.reduceAdd, Array.replicate_succ, Array.replicate_zero, List.push_toArray, List.nil_append, List.cons_append])
    refine r0 0 ?_; simp only [pz, pn, sz, sc]
    refine r0 2 ?_; simp only [pz, pn, sz, sc]
    refine r0 4 ?_; simp only [pz, pn, sz, sc]
    refine rl 1 rfl ?_ (by first | exact ylA ta24 | exact ylM ta24); simp only [pz, pn, sz, sc]
    refine r2 3 10 ?_ ?_
    (first | (refine kf gf97 hst (h7) rfl rfl rfl rfl ?_; clear hst; intro w hst) | (refine kf gf150 hst (h8) rfl rfl rfl rfl ?_; clear hst; intro w hst) | (refine kf gf96 hst (h9) rfl rfl rfl rfl ?_; clear hst; intro w hst) | (refine kp ?_)); (try simp only [pz, pn, sz, sc]); refine re ?_
    refine r2 5 10 ?_ ?_
    (first | (refine kf gf97 hst (h7) rfl rfl rfl rfl ?_; clear hst; intro w hst) | (refine kf gf150 hst (h8) rfl rfl rfl rfl ?_; clear hst; intro w hst) | (refine kf gf96 hst (h9) rfl rfl rfl rfl ?_; clear hst; intro w hst) | (refine kp ?_)); (try simp only [pz, pn, sz, sc]); refine re ?_
    refine r2 6 10 ?_ ?_
    (first | (refine kf gf97 hst (h7) rfl rfl rfl rfl ?_; clear hst; intro w hst) | (refine kf gf150 hst (h8) rfl rfl rfl rfl ?_; clear hst; intro w hst) | (refine kf gf96 hst (h9) rfl rfl rfl rfl ?_; clear hst; intro w hst) | (refine kp ?_)); (try simp only [pz, pn, sz, sc]); refine re ?_
    refine r0 7 ?_; simp only [pz, pn, sz, sc]
    refine r0 8 ?_; simp only [pz, pn, sz, sc]
    refine r0 9 ?_; simp only [pz, pn, sz, sc]
    refine r1 10 ?_; (refine ka 10 hst tz24 rfl rfl ?_; clear hst; intro b10 w hb10 hst); (try simp only [pz, pn, sz, sc]); refine re ?_
    refine r1 11 ?_; (first | (refine kt hst ta24 rfl rfl ?_; clear hst; intro w hst) | (refine ktm hst ta24 rfl rfl ?_; clear hst; intro w hst)); (try simp only [pz, pn, sz, sc]); refine re ?_
    refine r0 12 ?_; simp only [pz, pn, sz, sc]
    refine rd_ ?_
    rotate_left 1
    (refine ka 10 hst tz24 rfl rfl ?_; clear hst; intro b10 w hb10 hst); (try simp only [pz, pn, sz, sc]); refine re ?_
    refine r1 6 ?_; (first | (refine kf gf97 hst (h7) rfl rfl rfl rfl ?_; clear hst; intro w hst) | (refine kf gf150 hst (h8) rfl rfl rfl rfl ?_; clear hst; intro w hst) | (refine kf gf96 hst (h9) rfl rfl rfl rfl ?_; clear hst; intro w hst) | (refine kp ?_)); (try simp only [pz, pn, sz, sc]); refine re ?_
    refine r0 7 ?_; simp only [pz, pn, sz, sc]
    refine r0 8 ?_; simp only [pz, pn, sz, sc]
    refine r0 9 ?_; simp only [pz, pn, sz, sc]
    refine r1 11 ?_; (first | (refine kt hst ta24 rfl rfl ?_; clear hst; intro w hst) | (refine ktm hst ta24 rfl rfl ?_; clear hst; intro w hst)); (try simp only [pz, pn, sz, sc]); refine re ?_
    refine r0 12 ?_; simp only [pz, pn, sz, sc]
    refine rd_ ?_
    rotate_right 1
    rotate_left 2
    (refine ka 10 hst tz24 rfl rfl ?_; clear hst; intro b10 w hb10 hst); (try simp only [pz, pn, sz, sc]); refine re ?_
    refine r1 5 ?_; (first | (refine kf gf97 hst (h7) rfl rfl rfl rfl ?_; clear hst; intro w hst) | (refine kf gf150 hst (h8) rfl rfl rfl rfl ?_; clear hst; intro w hst) | (refine kf gf96 hst (h9) rfl rfl rfl rfl ?_; clear hst; intro w hst) | (refine kp ?_)); (try simp only [pz, pn, sz, sc]); refine re ?_
    refine r1 6 ?_; (first | (refine kf gf97 hst (h7) rfl rfl rfl rfl ?_; clear hst; intro w hst) | (refine kf gf150 hst (h8) rfl rfl rfl rfl ?_; clear hst; intro w hst) | (refine kf gf96 hst (h9) rfl rfl rfl rfl ?_; clear hst; intro w hst) | (refine kp ?_)); (try simp only [pz, pn, sz, sc]); refine re ?_
    refine r0 7 ?_; simp only [pz, pn, sz, sc]
    refine r0 8 ?_; simp only [pz, pn, sz, sc]
    refine r0 9 ?_; simp only [pz, pn, sz, sc]
    refine r1 11 ?_; (first | (refine kt hst ta24 rfl rfl ?_; clear hst; intro w hst) | (refine ktm hst ta24 rfl rfl ?_; clear hst; intro w hst)); (try simp only [pz, pn, sz, sc]); refine re ?_
    refine r0 12 ?_; simp only [pz, pn, sz, sc]
    refine rd_ ?_
    rotate_right 2
    rotate_left 3
    (refine ka 10 hst tz24 rfl rfl ?_; clear hst; intro b10 w hb10 hst); (try simp only [pz, pn, sz, sc]); refine re ?_
    refine r1 3 ?_; (first | (refine kf gf97 hst (h7) rfl rfl rfl rfl ?_; clear hst; intro w hst) | (refine kf gf150 hst (h8) rfl rfl rfl rfl ?_; clear hst; intro w hst) | (refine kf gf96 hst (h9) rfl rfl rfl rfl ?_; clear hst; intro w hst) | (refine kp ?_)); (try simp only [pz, pn, sz, sc]); refine re ?_
    refine r1 5 ?_; (first | (refine kf gf97 hst (h7) rfl rfl rfl rfl ?_; clear hst; intro w hst) | (refine kf gf150 hst (h8) rfl rfl rfl rfl ?_; clear hst; intro w hst) | (refine kf gf96 hst (h9) rfl rfl rfl rfl ?_; clear hst; intro w hst) | (refine kp ?_)); (try simp only [pz, pn, sz, sc]); refine re ?_
    refine r1 6 ?_; (first | (refine kf gf97 hst (h7) rfl rfl rfl rfl ?_; clear hst; intro w hst) | (refine kf gf150 hst (h8) rfl rfl rfl rfl ?_; clear hst; intro w hst) | (refine kf gf96 hst (h9) rfl rfl rfl rfl ?_; clear hst; intro w hst) | (refine kp ?_)); (try simp only [pz, pn, sz, sc]); refine re ?_
    refine r0 7 ?_; simp only [pz, pn, sz, sc]
    refine r0 8 ?_; simp only [pz, pn, sz, sc]
    refine r0 9 ?_; simp only [pz, pn, sz, sc]
    refine r1 11 ?_; (first | (refine kt hst ta24 rfl rfl ?_; clear hst; intro w hst) | (refine ktm hst ta24 rfl rfl ?_; clear hst; intro w hst)); (try simp only [pz, pn, sz, sc]); refine re ?_
    refine r0 12 ?_; simp only [pz, pn, sz, sc]
    refine rd_ ?_
    rotate_right 3
  all_goals
    go_wp2_with ((first | (refine kb 3 hst rfl rfl ?_; clear hst; intro b3 w hb3 hst) | (refine ka 6 hst tz193 rfl rfl ?_; clear hst; intro b6 w hb6 hst) | (refine kl hst ta24 rfl ?_) | (refine klm hst ta24 rfl ?_) | (refine ka 7 hst tz24 rfl rfl ?_; clear hst; intro b7 w hb7 hst) | (refine kt hst ta24 rfl rfl ?_; clear hst; intro w hst) | (refine ktm hst ta24 rfl rfl ?_; clear hst; intro w hst) | (refine ka 8 hst tz24 rfl rfl ?_; clear hst; intro b8 w hb8 hst) | (refine ka 10 hst tz24 rfl rfl ?_; clear hst; intro b10 w hb10 hst) | (refine kB (tb193_01 _ _) rfl ?_) | (refine kt hst ta193 rfl rfl ?_; clear hst; intro w hst) | (refine ktm hst ta193 rfl rfl ?_; clear hst; intro w hst)); try simp only [pz, pn, sz, sc])
    refine bp_c rfl rfl (la hst ta193) ⟨?_, hst.keeps⟩
    rfl

end Go.Proofs.YtggchelniblipaaGreatDoor.Rd
