/- sync.Once.Do, one goroutine: not yet done and the lock free; done already. After the guide's worked text of such a walk. -/
import Derived.Test.YtggchelniblipaaGreatJ09
import Derived.Test.YtggchelniblipaaGreatJ04
import Derived.Test.YtggchelniblipaaGreatJ05
import Derived.Defers
import Derived.Laws.Pointers
import Derived.Laws.LoneSync
import Derived.RegionCalls
import Derived.Laws.NewBlocks
namespace Go.Proofs.YtggchelniblipaaGreat.Rd
open Go Go.RowKit
set_option linter.unusedVariables false
set_option linter.unusedSimpArgs false
set_option maxRecDepth 100000

set_option maxHeartbeats 4000000 in
theorem table_RootBounds (j : Nat) (s : Int) (h1 : 28 ≤ s) (h2 : s ≤ 64) : Gives Tryz.prog 147 #[.int .i64 j, .int .i64 s] (.tuple #[.agg (pb (3 * s + rsq j 9) (s + rsq j 1) (-s + rsq j 1) (-3 * s + rsq j 9)), .bool true]) := by
  intro w0
  have hst := St.start [] w0
  have q9 := table_square j 9 (by omega) (by omega)
  have q1 := table_square j 1 (by omega) (by omega)
  have r9 : 0 ≤ rsq j 9 ∧ rsq j 9 ≤ 36 := by unfold rsq; split <;> (try split) <;> (try split) <;> omega
  have r1 : 0 ≤ rsq j 1 ∧ rsq j 1 ≤ 4 := by unfold rsq; split <;> (try split) <;> (try split) <;> omega
  generalize rsq j 9 = x9 at *
  generalize rsq j 1 = x1 at *
  obtain ⟨r90, r91⟩ := r9
  obtain ⟨r10, r11⟩ := r1
  have j0 : ¬ ((j : Int) < 0) := by omega
  have s0 : ¬ (s < 28) := by omega
  have s1 : ¬ ((64 : Int) < s) := by omega
  have hset := Lib.hid (rbs_set (3 * s + x9) (s + x1) (-s + x1) (-3 * s + x9))
  have hsz := Lib.hid (rbs_size (3 * s + x9) (s + x1) (-s + x1) (-3 * s + x9))
  have hbn : ∀ k, k < 4 → bnd (3 * s + x9) (s + x1) (-s + x1) (-3 * s + x9) k = (3 - 2 * (k : Int)) * s + (if k = 0 ∨ k = 3 then x9 else x1) := fun k hk => by
    have : k = 0 ∨ k = 1 ∨ k = 2 ∨ k = 3 := by omega
    rcases this with rfl | rfl | rfl | rfl <;> simp [bnd] <;> omega
  have hbn' := Lib.hid hbn
  have hz : pb 0 0 0 0 = rbs (3 * s + x9) (s + x1) (-s + x1) (-3 * s + x9) 0 := rfl
  have hend : rbs (3 * s + x9) (s + x1) (-s + x1) (-3 * s + x9) 4 = pb (3 * s + x9) (s + x1) (-s + x1) (-3 * s + x9) := rfl
  rw [← hend]
  have hz' := Lib.hid hz
  have hone' : OneC (rbs (3 * s + x9) (s + x1) (-s + x1) (-3 * s + x9) 4) := ⟨by kernel_rfl⟩
  clear hz hend hbn
  generalize rbs (3 * s + x9) (s + x1) (-s + x1) (-3 * s + x9) = rb at *
  generalize bnd (3 * s + x9) (s + x1) (-s + x1) (-3 * s + x9) = bf at *
  go_enter Tryz.func147, Tryz.ntmps147
  go_wp2_with ((first | (refine ka 4 hst tz202 rfl rfl ?_; clear hst; intro b4 w hb4 hst) | (refine ka 6 hst tz202 rfl rfl ?_; clear hst; intro b6 w hb6 hst) | (refine kl hst ta202 rfl ?_) | (refine klm hst ta202 rfl ?_) | (refine kt hst ta202 rfl rfl ?_; clear hst; intro w hst) | (refine ktm hst ta202 rfl rfl ?_; clear hst; intro w hst) | (refine ks hst tc3 rfl rfl ?_; clear hst; intro w hst)); try simp only [pz, pn, sz, sc])
  go_loopw [7, 8, 20] (fun u v i wr => ∃ k : Nat, k ≤ 4 ∧ i = .int .i64 k ∧ St w0 [] [(b6, .cells (rb k) 202), (b4, .cells (pb 0 0 0 0) 202)] wr) (fun _ _ i _ => 4 - (intOf i).toNat)
  case atStart => exact ⟨0, by omega, rfl, by rw [← hz'.out]; exact hst⟩
  case round =>
    clear hst
    obtain ⟨k, hk, rfl, hst⟩ := hrel
    have hszk := hsz.out k
    by_cases hlt : k < 4
    · have hi0 : (0 : Int) ≤ (k : Int) := by omega
      have hi8 : (k : Int) < 4 := by omega
      have hk4 : k = 0 ∨ k = 1 ∨ k = 2 ∨ k = 3 := by omega
      have hlt4 : k < (rb k).size := by omega
      have hsk := hset.out k hlt
      rw [hbn'.out k hlt] at hsk
      rcases hk4 with rfl | rfl | rfl | rfl
      · have e : (3 - 2 * ((0 : Nat) : Int)) * s + (if (0 : Nat) = 0 ∨ (0 : Nat) = 3 then x9 else x1) = 3 * s + x9 := by simp
        rw [e] at hsk
        have hsk' := Lib.hid hsk
        clear hsk hk hlt e
        simp only [Int.natCast_zero]
        go_wp2_with ((first | (refine kf gf151 hst (q9) rfl rfl rfl rfl ?_; clear hst; intro w hst) | (refine ka 4 hst tz202 rfl rfl ?_; clear hst; intro b4 w hb4 hst) | (refine ka 6 hst tz202 rfl rfl ?_; clear hst; intro b6 w hb6 hst) | (refine kl hst ta202 rfl ?_) | (refine klm hst ta202 rfl ?_) | (refine kt hst ta202 rfl rfl ?_; clear hst; intro w hst) | (refine ktm hst ta202 rfl rfl ?_; clear hst; intro w hst) | (refine ks hst tc3 rfl rfl ?_; clear hst; intro w hst)); try simp only [pz, pn, sz, sc])
        rw [hsk'.out] at hst
        exact ⟨⟨1, by omega, rfl, hst⟩, by simp [intOf]⟩
      · have e : (3 - 2 * ((1 : Nat) : Int)) * s + (if (1 : Nat) = 0 ∨ (1 : Nat) = 3 then x9 else x1) = s + x1 := by simp
        rw [e] at hsk
        have hsk' := Lib.hid hsk
        clear hsk hk hlt e
        simp only [Int.natCast_one]
        go_wp2_with ((first | (refine kf gf151 hst (q1) rfl rfl rfl rfl ?_; clear hst; intro w hst) | (refine ka 4 hst tz202 rfl rfl ?_; clear hst; intro b4 w hb4 hst) | (refine ka 6 hst tz202 rfl rfl ?_; clear hst; intro b6 w hb6 hst) | (refine kl hst ta202 rfl ?_) | (refine klm hst ta202 rfl ?_) | (refine kt hst ta202 rfl rfl ?_; clear hst; intro w hst) | (refine ktm hst ta202 rfl rfl ?_; clear hst; intro w hst) | (refine ks hst tc3 rfl rfl ?_; clear hst; intro w hst)); try simp only [pz, pn, sz, sc])
        rw [hsk'.out] at hst
        exact ⟨⟨2, by omega, rfl, hst⟩, by simp [intOf]⟩
      · have e : (3 - 2 * ((2 : Nat) : Int)) * s + (if (2 : Nat) = 0 ∨ (2 : Nat) = 3 then x9 else x1) = -s + x1 := by simp
        rw [e] at hsk
        have hsk' := Lib.hid hsk
        clear hsk hk hlt e
        simp only [Int.cast_ofNat_Int]
        go_wp2_with ((first | (refine kf gf151 hst (q1) rfl rfl rfl rfl ?_; clear hst; intro w hst) | (refine ka 4 hst tz202 rfl rfl ?_; clear hst; intro b4 w hb4 hst) | (refine ka 6 hst tz202 rfl rfl ?_; clear hst; intro b6 w hb6 hst) | (refine kl hst ta202 rfl ?_) | (refine klm hst ta202 rfl ?_) | (refine kt hst ta202 rfl rfl ?_; clear hst; intro w hst) | (refine ktm hst ta202 rfl rfl ?_; clear hst; intro w hst) | (refine ks hst tc3 rfl rfl ?_; clear hst; intro w hst)); try simp only [pz, pn, sz, sc])
        rw [hsk'.out] at hst
        exact ⟨⟨3, by omega, rfl, hst⟩, by simp [intOf]⟩
      · have e : (3 - 2 * ((3 : Nat) : Int)) * s + (if (3 : Nat) = 0 ∨ (3 : Nat) = 3 then x9 else x1) = -3 * s + x9 := by simp
        rw [e] at hsk
        have hsk' := Lib.hid hsk
        clear hsk hk hlt e
        simp only [Int.cast_ofNat_Int]
        go_wp2_with ((first | (refine kf gf151 hst (q9) rfl rfl rfl rfl ?_; clear hst; intro w hst) | (refine ka 4 hst tz202 rfl rfl ?_; clear hst; intro b4 w hb4 hst) | (refine ka 6 hst tz202 rfl rfl ?_; clear hst; intro b6 w hb6 hst) | (refine kl hst ta202 rfl ?_) | (refine klm hst ta202 rfl ?_) | (refine kt hst ta202 rfl rfl ?_; clear hst; intro w hst) | (refine ktm hst ta202 rfl rfl ?_; clear hst; intro w hst) | (refine ks hst tc3 rfl rfl ?_; clear hst; intro w hst)); try simp only [pz, pn, sz, sc])
        rw [hsk'.out] at hst
        exact ⟨⟨4, by omega, rfl, hst⟩, by simp [intOf]⟩
    · have : k = 4 := by omega
      subst this
      go_wp2_with ((first | (refine ka 4 hst tz202 rfl rfl ?_; clear hst; intro b4 w hb4 hst) | (refine ka 6 hst tz202 rfl rfl ?_; clear hst; intro b6 w hb6 hst) | (refine kl hst ta202 rfl ?_) | (refine klm hst ta202 rfl ?_) | (refine kt hst ta202 rfl rfl ?_; clear hst; intro w hst) | (refine ktm hst ta202 rfl rfl ?_; clear hst; intro w hst) | (refine ks hst tc3 rfl rfl ?_; clear hst; intro w hst)); try simp only [pz, pn, sz, sc])
      refine bp_ct rfl rfl (la hst ta202) (by rfl) ⟨?_, hst.keeps⟩
      rfl

set_option maxHeartbeats 1000000 in
theorem table_RootDigit (j : Nat) (s y : Int) (h1 : 28 ≤ s) (h2 : s ≤ 64) : Gives Tryz.prog 137 #[.int .i64 j, .int .i64 s, .int .i64 y] (.tuple #[.int .i64 (rdig j s y), .bool true]) := by
  intro w0
  have hst := St.start [] w0
  have hb := table_RootBounds j s h1 h2
  have hp := table_pick (3 * s + rsq j 9) (s + rsq j 1) (-s + rsq j 1) (-3 * s + rsq j 9) y
  have e : pickD (3 * s + rsq j 9) (s + rsq j 1) (-s + rsq j 1) (-3 * s + rsq j 9) y = rdig j s y := rfl
  rw [e] at hp
  have hsz : (pb (3 * s + rsq j 9) (s + rsq j 1) (-s + rsq j 1) (-3 * s + rsq j 9)).size = 4 := rfl
  have hone : OneC (pb (3 * s + rsq j 9) (s + rsq j 1) (-s + rsq j 1) (-3 * s + rsq j 9)) := ⟨by kernel_rfl⟩
  generalize pb (3 * s + rsq j 9) (s + rsq j 1) (-s + rsq j 1) (-3 * s + rsq j 9) = cs at *
  generalize rdig j s y = d at *
  clear e
  go_enter Tryz.func137, Tryz.ntmps137
  go_wp2_with ((first | (refine kf gf147 hst (hb) rfl rfl rfl rfl ?_; clear hst; intro w hst) | (refine kf gf142 hst (hp) rfl rfl rfl rfl ?_; clear hst; intro w hst) | (refine ka 8 hst tz202 rfl rfl ?_; clear hst; intro b8 w hb8 hst) | (refine kt hst ta202 rfl rfl ?_; clear hst; intro w hst) | (refine ktm hst ta202 rfl rfl ?_; clear hst; intro w hst) | (refine kl hst ta202 rfl ?_) | (refine klm hst ta202 rfl ?_)); try simp only [pz, pn, sz, sc])
  refine bp_tt rfl rfl (by rfl) (by rfl) ⟨?_, hst.keeps⟩
  rfl

/-- What one is far: the root so far, what is left. -/
def farC (p l : Int) : Array Value := wc 8 (toW p) ++ wc 8 (toW l)
theorem farC_size (p l : Int) : (farC p l).size = 16 := by simp [farC]
theorem app_one (a b : Nat) : OneC (wc 8 a ++ wc 8 b) := ⟨by rw [Array.all_append, wc_one, wc_one]; rfl⟩
theorem farC_one (p l : Int) : OneC (farC p l) := app_one _ _

theorem toW_pow (k : Nat) (h : k < 512) : toW ((2 ^ k : Nat) : Int) = 2 ^ k := toW_nat _ (pow_M h)

set_option maxHeartbeats 4000000 in
theorem srtroot_begin (n : Nat) (hn : n < M) : Gives Tryz.prog 136 #[W n] (.agg (farC ((2 ^ 128 : Nat) : Int) ((n : Int) - (2 ^ 256 : Nat)))) := by
  intro w0
  have hst := St.start [] w0
  have h1 := wide_Power 256
  have e1 : pow2 256 = toW ((2 ^ 256 : Nat) : Int) := by rw [toW_pow 256 (by omega)]; unfold pow2; rw [if_pos (by omega)]; rfl
  rw [e1] at h1
  have h2 := wide_Power 128
  have e2 : pow2 128 = toW ((2 ^ 128 : Nat) : Int) := by rw [toW_pow 128 (by omega)]; unfold pow2; rw [if_pos (by omega)]; rfl
  rw [e2] at h2
  have h3 := wide_Sub (toW (n : Int)) (toW ((2 ^ 256 : Nat) : Int)) (toW_lt _) (toW_lt _)
  rw [toW_sub, toW_nat n hn] at h3
  unfold farC
  clear e1 e2
  generalize toW ((2 ^ 256 : Nat) : Int) = x at *
  generalize toW ((2 ^ 128 : Nat) : Int) = z at *
  generalize toW ((n : Int) - (2 ^ 256 : Nat)) = y at *
  have h16 : (wc 8 z ++ wc 8 y).size = 16 := by simp
  have hone := app_one z y
  go_enter Tryz.func136, Tryz.ntmps136
  go_wp2_with ((first | (refine kb 1 hst rfl rfl ?_; clear hst; intro b1 w hb1 hst) | (refine ka 2 hst tz190 rfl rfl ?_; clear hst; intro b2 w hb2 hst) | (refine kl hst ta25 rfl ?_) | (refine klm hst ta25 rfl ?_) | (refine ka 3 hst tz25 rfl rfl ?_; clear hst; intro b3 w hb3 hst) | (refine kt hst ta25 rfl rfl ?_; clear hst; intro w hst) | (refine ktm hst ta25 rfl rfl ?_; clear hst; intro w hst) | (refine kB (tb190_01 _ _) rfl ?_) | (refine kt hst ta190 rfl rfl ?_; clear hst; intro w hst) | (refine ktm hst ta190 rfl rfl ?_; clear hst; intro w hst)); try simp only [pz, pn, sz, sc])
  refine wp_region_T 7  hst (by kernel_rfl) ?_; clear hst; intro w hst; (try dsimp only [List.length_cons, List.length_nil]); (try simp only [List.length_cons, List.length_nil, Nat.reduceAdd, Array.replicate_succ, Array.replicate_zero, List.push_toArray, List.nil_append, List.cons_append])
  refine rl 0 rfl ?_ (by first | exact ylA ta25 | exact ylM ta25); simp only [pz, pn, sz, sc]
  refine r2 1 6 ?_ ?_
  (first | (refine kf gf95 hst (h1) rfl rfl rfl rfl ?_; clear hst; intro w hst) | (refine kf gf93 hst (h3) rfl rfl rfl rfl ?_; clear hst; intro w hst) | (refine kp ?_)); (try simp only [pz, pn, sz, sc]); refine re ?_
  refine r2 2 6 ?_ ?_
  (first | (refine kf gf95 hst (h1) rfl rfl rfl rfl ?_; clear hst; intro w hst) | (refine kf gf93 hst (h3) rfl rfl rfl rfl ?_; clear hst; intro w hst) | (refine kp ?_)); (try simp only [pz, pn, sz, sc]); refine re ?_
  refine r0 3 ?_; simp only [pz, pn, sz, sc]
  refine r0 4 ?_; simp only [pz, pn, sz, sc]
  refine r0 5 ?_; simp only [pz, pn, sz, sc]
  refine r1 6 ?_; (refine ka 3 hst tz25 rfl rfl ?_; clear hst; intro b3 w hb3 hst); (try simp only [pz, pn, sz, sc]); refine re ?_
  refine r1 7 ?_; (first | (refine kt hst ta25 rfl rfl ?_; clear hst; intro w hst) | (refine ktm hst ta25 rfl rfl ?_; clear hst; intro w hst)); (try simp only [pz, pn, sz, sc]); refine re ?_
  refine r0 8 ?_; simp only [pz, pn, sz, sc]
  refine rd_ ?_
  rotate_left 1
  (refine ka 3 hst tz25 rfl rfl ?_; clear hst; intro b3 w hb3 hst); (try simp only [pz, pn, sz, sc]); refine re ?_
  refine r1 2 ?_; (first | (refine kf gf95 hst (h1) rfl rfl rfl rfl ?_; clear hst; intro w hst) | (refine kf gf93 hst (h3) rfl rfl rfl rfl ?_; clear hst; intro w hst) | (refine kp ?_)); (try simp only [pz, pn, sz, sc]); refine re ?_
  refine r0 3 ?_; simp only [pz, pn, sz, sc]
  refine r0 4 ?_; simp only [pz, pn, sz, sc]
  refine r0 5 ?_; simp only [pz, pn, sz, sc]
  refine r1 7 ?_; (first | (refine kt hst ta25 rfl rfl ?_; clear hst; intro w hst) | (refine ktm hst ta25 rfl rfl ?_; clear hst; intro w hst)); (try simp only [pz, pn, sz, sc]); refine re ?_
  refine r0 8 ?_; simp only [pz, pn, sz, sc]
  refine rd_ ?_
  rotate_right 1
  rotate_left 2
  (refine ka 3 hst tz25 rfl rfl ?_; clear hst; intro b3 w hb3 hst); (try simp only [pz, pn, sz, sc]); refine re ?_
  refine r1 1 ?_; (first | (refine kf gf95 hst (h1) rfl rfl rfl rfl ?_; clear hst; intro w hst) | (refine kf gf93 hst (h3) rfl rfl rfl rfl ?_; clear hst; intro w hst) | (refine kp ?_)); (try simp only [pz, pn, sz, sc]); refine re ?_
  refine r1 2 ?_; (first | (refine kf gf95 hst (h1) rfl rfl rfl rfl ?_; clear hst; intro w hst) | (refine kf gf93 hst (h3) rfl rfl rfl rfl ?_; clear hst; intro w hst) | (refine kp ?_)); (try simp only [pz, pn, sz, sc]); refine re ?_
  refine r0 3 ?_; simp only [pz, pn, sz, sc]
  refine r0 4 ?_; simp only [pz, pn, sz, sc]
  refine r0 5 ?_; simp only [pz, pn, sz, sc]
  refine r1 7 ?_; (first | (refine kt hst ta25 rfl rfl ?_; clear hst; intro w hst) | (refine ktm hst ta25 rfl rfl ?_; clear hst; intro w hst)); (try simp only [pz, pn, sz, sc]); refine re ?_
  refine r0 8 ?_; simp only [pz, pn, sz, sc]
  refine rd_ ?_
  rotate_right 2
  all_goals
    go_wp2_with ((first | (refine kb 1 hst rfl rfl ?_; clear hst; intro b1 w hb1 hst) | (refine ka 2 hst tz190 rfl rfl ?_; clear hst; intro b2 w hb2 hst) | (refine kl hst ta25 rfl ?_) | (refine klm hst ta25 rfl ?_) | (refine ka 3 hst tz25 rfl rfl ?_; clear hst; intro b3 w hb3 hst) | (refine kt hst ta25 rfl rfl ?_; clear hst; intro w hst) | (refine ktm hst ta25 rfl rfl ?_; clear hst; intro w hst) | (refine kB (tb190_01 _ _) rfl ?_) | (refine kt hst ta190 rfl rfl ?_; clear hst; intro w hst) | (refine ktm hst ta190 rfl rfl ?_; clear hst; intro w hst)); try simp only [pz, pn, sz, sc])
    refine wp_region_T 3  hst (by kernel_rfl) ?_; clear hst; intro w hst; (try dsimp only [List.length_cons, List.length_nil]); (try simp only [List.length_cons, List.length_nil, Nat.reduceAdd, Array.replicate_succ, Array.replicate_zero, List.push_toArray, List.nil_append, List.cons_append])
    refine rl 1 rfl ?_ (by first | exact ylA ta25 | exact ylM ta25); simp only [pz, pn, sz, sc]
    refine r1 0 ?_; (first | (refine kf gf95 hst (h2) rfl rfl rfl rfl ?_; clear hst; intro w hst) | (refine kp ?_)); (try simp only [pz, pn, sz, sc]); refine re ?_
    refine r0 2 ?_ (hy := yB (tb190_01 _ _)); simp only [pz, pn, sz, sc]
    refine r1 3 ?_; (first | (refine kt hst ta190 rfl rfl ?_; clear hst; intro w hst) | (refine ktm hst ta190 rfl rfl ?_; clear hst; intro w hst)); (try simp only [pz, pn, sz, sc]); refine re ?_
    refine rd_ ?_
    go_wp2_with ((first | (refine kb 1 hst rfl rfl ?_; clear hst; intro b1 w hb1 hst) | (refine ka 2 hst tz190 rfl rfl ?_; clear hst; intro b2 w hb2 hst) | (refine kl hst ta25 rfl ?_) | (refine klm hst ta25 rfl ?_) | (refine ka 3 hst tz25 rfl rfl ?_; clear hst; intro b3 w hb3 hst) | (refine kt hst ta25 rfl rfl ?_; clear hst; intro w hst) | (refine ktm hst ta25 rfl rfl ?_; clear hst; intro w hst) | (refine kB (tb190_01 _ _) rfl ?_) | (refine kt hst ta190 rfl rfl ?_; clear hst; intro w hst) | (refine ktm hst ta190 rfl rfl ?_; clear hst; intro w hst)); try simp only [pz, pn, sz, sc])
    refine bp_c rfl rfl (la hst ta190) ⟨?_, hst.keeps⟩
    rfl

end Go.Proofs.YtggchelniblipaaGreat.Rd

namespace Go.Proofs.YtggchelniblipaaGreat.Rd
open Go Go.RowKit
set_option linter.unusedVariables false
set_option linter.unusedSimpArgs false
set_option maxRecDepth 100000

/-- The bounds' cells: eight rows of four numbers, whichever. -/
def TabOk (tc : Array Value) : Prop := tc.size = 32 ∧ ∀ i, i < 32 → ∃ z : Int, tc[i]? = some (.int .i64 z)
def tcell (tc : Array Value) (i : Nat) : Int := match tc[i]? with | some (.int _ z) => z | _ => 0
theorem TabOk.get {tc : Array Value} (h : TabOk tc) (i : Nat) (hi : i < 32) : tc[i]? = some (.int .i64 (tcell tc i)) := by
  obtain ⟨z, hz⟩ := h.2 i hi
  unfold tcell
  rw [hz]
def trow (tc : Array Value) (r : Nat) : Array Value := pb (tcell tc (r * 4)) (tcell tc (r * 4 + 1)) (tcell tc (r * 4 + 2)) (tcell tc (r * 4 + 3))
theorem TabOk.part {tc : Array Value} (h : TabOk tc) (r : Nat) (hr : r < 8) : Part tc (trow tc r) tc (trow tc r) (r * 4) := by
  have hs := h.1
  have e : tc = tc.extract 0 (r * 4) ++ trow tc r ++ tc.extract (r * 4 + 4) 32 := by
    apply Array.ext_getElem?
    intro i
    have z1 : (tc.extract 0 (r * 4)).size = r * 4 := by simp; omega
    have z2 : (trow tc r).size = 4 := rfl
    rcases Nat.lt_or_ge i (r * 4) with h1 | h1
    · rw [Array.append_assoc, Array.getElem?_append_left (by omega)]
      simp [Array.getElem?_extract]
      omega
    · rcases Nat.lt_or_ge i (r * 4 + 4) with h2 | h2
      · rw [Array.append_assoc, Array.getElem?_append_right (by omega), z1, Array.getElem?_append_left (by omega), h.get i (by omega)]
        obtain ⟨k, rfl⟩ : ∃ k, i = r * 4 + k := ⟨i - r * 4, by omega⟩
        rw [Nat.add_sub_cancel_left]
        have hk : k = 0 ∨ k = 1 ∨ k = 2 ∨ k = 3 := by omega
        rcases hk with rfl | rfl | rfl | rfl <;> rfl
      · rw [Array.getElem?_append_right (by simp; omega)]
        simp only [Array.size_append, z1, z2]
        rcases Nat.lt_or_ge i 32 with h3 | h3
        · simp [Array.getElem?_extract]
          rw [if_pos (by omega)]
          congr 1; omega
        · rw [Array.getElem?_eq_none (by omega), Array.getElem?_eq_none (by simp; omega)]
  exact ⟨_, _, e, e, by simp; omega, rfl⟩

def tdig (tc : Array Value) (i y : Int) : Int := if 8 ≤ i ∧ i < 16 then pickD (tcell tc ((i - 8).toNat * 4)) (tcell tc ((i - 8).toNat * 4 + 1)) (tcell tc ((i - 8).toNat * 4 + 2)) (tcell tc ((i - 8).toNat * 4 + 3)) y else 0
theorem pickD_in (a b c d y : Int) : -2 ≤ pickD a b c d y ∧ pickD a b c d y ≤ 2 := by unfold pickD; split <;> (try split) <;> (try split) <;> (try split) <;> omega
theorem tdig_in (tc : Array Value) (i y : Int) : -2 ≤ tdig tc i y ∧ tdig tc i y ≤ 2 := by
  unfold tdig; split
  · exact pickD_in _ _ _ _ _
  · omega

set_option maxHeartbeats 1000000 in
theorem table_Bounds (tc : Array Value) (h : TabOk tc) (r : Nat) (hr : r < 8) (w0 : World) (hg : w0.heap[0]? = some (.cells tc 212)) : GivesAt Tryz.prog 141 #[.int .i64 ((r : Int) + 8)] (.tuple #[.agg (trow tc r), .bool true]) w0 := by
  have hst := (St.start [] w0).add hg (by simp)
  have hp := h.part r hr
  have hz : (trow tc r).size = 4 := rfl
  have h1 : ¬ (r : Int) + 8 < 8 := by omega
  have h2 : ¬ 16 ≤ (r : Int) + 8 := by omega
  have h3 : (0 : Int) ≤ (r : Int) := by omega
  have h4 : (r : Int) < 8 := by omega
  have hone : OneC (trow tc r) := ⟨by kernel_rfl⟩
  clear hg h
  generalize trow tc r = cs at *
  go_enter Tryz.func141, Tryz.ntmps141
  go_wp2_with ((first | (refine klm hst ta202 rfl ?_ (hc := hp) (hn := hz)) | (refine ka 2 hst tz202 rfl rfl ?_; clear hst; intro b2 w hb2 hst) | (refine kt hst ta202 rfl rfl ?_; clear hst; intro w hst) | (refine ktm hst ta202 rfl rfl ?_; clear hst; intro w hst) | (refine kl hst ta202 rfl ?_) | (refine klm hst ta202 rfl ?_)); try simp only [pz, pn, sz, sc])
  refine bp_ct rfl rfl (la hst ta202) (by rfl) ⟨?_, hst.keeps⟩
  rfl

theorem table_Bounds_no (i : Int) (h : i < 8 ∨ 16 ≤ i) : Gives Tryz.prog 141 #[.int .i64 i] (.tuple #[.agg (pb 0 0 0 0), .bool false]) := by
  intro w0
  have hst := St.start [] w0
  rcases h with h | h
  · go_enter Tryz.func141, Tryz.ntmps141
    go_wp2_with ((first | (refine ka 2 hst tz202 rfl rfl ?_; clear hst; intro b2 w hb2 hst) | (refine kt hst ta202 rfl rfl ?_; clear hst; intro w hst) | (refine ktm hst ta202 rfl rfl ?_; clear hst; intro w hst) | (refine kl hst ta202 rfl ?_) | (refine klm hst ta202 rfl ?_)); try simp only [pz, pn, sz, sc])
    refine bp_ct rfl rfl (la hst ta202) (by rfl) ⟨?_, hst.keeps⟩
    rfl
  · have h1 : ¬ i < 8 := by omega
    go_enter Tryz.func141, Tryz.ntmps141
    go_wp2_with ((first | (refine ka 2 hst tz202 rfl rfl ?_; clear hst; intro b2 w hb2 hst) | (refine kt hst ta202 rfl rfl ?_; clear hst; intro w hst) | (refine ktm hst ta202 rfl rfl ?_; clear hst; intro w hst) | (refine kl hst ta202 rfl ?_) | (refine klm hst ta202 rfl ?_)); try simp only [pz, pn, sz, sc])
    refine bp_ct rfl rfl (la hst ta202) (by rfl) ⟨?_, hst.keeps⟩
    rfl

def tdok (i : Int) : Bool := decide (8 ≤ i ∧ i < 16)

set_option maxHeartbeats 1000000 in
theorem table_Digit (tc : Array Value) (h : TabOk tc) (i y : Int) (w0 : World) (hg : w0.heap[0]? = some (.cells tc 212)) : GivesAt Tryz.prog 130 #[.int .i64 i, .int .i64 y] (.tuple #[.int .i64 (tdig tc i y), .bool (tdok i)]) w0 := by
  have hst := (St.start [] w0).add hg (by simp)
  by_cases hi : 8 ≤ i ∧ i < 16
  · obtain ⟨r, rfl⟩ : ∃ r : Nat, i = (r : Int) + 8 := ⟨(i - 8).toNat, by omega⟩
    have hb := fun w q => table_Bounds tc h r (by omega) w q
    have hp := table_pick (tcell tc (r * 4)) (tcell tc (r * 4 + 1)) (tcell tc (r * 4 + 2)) (tcell tc (r * 4 + 3)) y
    have e : tdig tc ((r : Int) + 8) y = pickD (tcell tc (r * 4)) (tcell tc (r * 4 + 1)) (tcell tc (r * 4 + 2)) (tcell tc (r * 4 + 3)) y := by
      unfold tdig
      rw [if_pos hi, show ((r : Int) + 8 - 8).toNat = r by omega]
    have e2 : tdok ((r : Int) + 8) = true := by unfold tdok; simpa using hi
    rw [e, e2]
    unfold trow at hb
    have hsz : (pb (tcell tc (r * 4)) (tcell tc (r * 4 + 1)) (tcell tc (r * 4 + 2)) (tcell tc (r * 4 + 3))).size = 4 := rfl
    have hone : OneC (pb (tcell tc (r * 4)) (tcell tc (r * 4 + 1)) (tcell tc (r * 4 + 2)) (tcell tc (r * 4 + 3))) := ⟨by kernel_rfl⟩
    clear e e2 hi hg h
    generalize pickD (tcell tc (r * 4)) (tcell tc (r * 4 + 1)) (tcell tc (r * 4 + 2)) (tcell tc (r * 4 + 3)) y = d at *
    generalize pb (tcell tc (r * 4)) (tcell tc (r * 4 + 1)) (tcell tc (r * 4 + 2)) (tcell tc (r * 4 + 3)) = cs at *
    go_enter Tryz.func130, Tryz.ntmps130
    go_wp2_with ((first | (refine kg gf141 hst (fun w hst => hb w (hst.own _ _ (by repeat (first | exact List.Mem.head _ | refine List.Mem.tail _ ?_)))) rfl rfl rfl rfl ?_; clear hst; intro w hst) | (refine kf gf142 hst (hp) rfl rfl rfl rfl ?_; clear hst; intro w hst) | (refine ka 6 hst tz202 rfl rfl ?_; clear hst; intro b6 w hb6 hst) | (refine kt hst ta202 rfl rfl ?_; clear hst; intro w hst) | (refine ktm hst ta202 rfl rfl ?_; clear hst; intro w hst) | (refine kl hst ta202 rfl ?_) | (refine klm hst ta202 rfl ?_)); try simp only [pz, pn, sz, sc])
    refine bp_tt rfl rfl (by rfl) (by rfl) ⟨?_, hst.keeps⟩
    rfl
  · have hb := table_Bounds_no i (by omega)
    have e : tdig tc i y = 0 := by unfold tdig; rw [if_neg hi]
    have e2 : tdok i = false := by unfold tdok; simpa using hi
    rw [e, e2]
    have hsz : (pb 0 0 0 0).size = 4 := rfl
    have hone : OneC (pb 0 0 0 0) := ⟨by kernel_rfl⟩
    clear e e2 hi hg h
    generalize pb 0 0 0 0 = cs at *
    go_enter Tryz.func130, Tryz.ntmps130
    go_wp2_with ((first | (refine kf gf141 hst (hb) rfl rfl rfl rfl ?_; clear hst; intro w hst) | (refine ka 6 hst tz202 rfl rfl ?_; clear hst; intro b6 w hb6 hst) | (refine kt hst ta202 rfl rfl ?_; clear hst; intro w hst) | (refine ktm hst ta202 rfl rfl ?_; clear hst; intro w hst) | (refine kl hst ta202 rfl ?_) | (refine klm hst ta202 rfl ?_)); try simp only [pz, pn, sz, sc])
    refine bp_tt rfl rfl (by rfl) (by rfl) ⟨?_, hst.keeps⟩
    rfl

/-- A wide's last 64 bits with a sign. -/
def sm (n : Nat) : Int := IntKind.i64.wrap ((lb n 0 : Nat) : Int)
theorem sm_in (n : Nat) : -9223372036854775808 ≤ sm n ∧ sm n ≤ 9223372036854775807 := by
  unfold sm
  have hs : IntKind.i64.signed = true := rfl
  have hb : (2 : Int) ^ IntKind.i64.bits = 18446744073709551616 := rfl
  have hb' : (2 : Int) ^ (IntKind.i64.bits - 1) = 9223372036854775808 := rfl
  have h := lb_lt n 0
  rw [B_val] at h
  simp only [IntKind.wrap, hs, hb, hb', Bool.true_and]
  split <;> rename_i q <;> simp at q <;> omega

theorem srt_small (n : Nat) : Gives Tryz.prog 128 #[W n] (.int .i64 (sm n)) := by
  intro w0
  have hst := St.start [] w0
  obtain ⟨h1, h2⟩ := sm_in n
  have e : IntKind.i64.wrap ((lb n 0 : Nat) : Int) = sm n := rfl
  generalize sm n = z at *
  go_enter Tryz.func128, Tryz.ntmps128
  go_wp2_with ((first | (refine kb 1 hst rfl rfl ?_; clear hst; intro b1 w hb1 hst) | (refine kc hst tc23 rfl ?_)); try simp only [pz, pn, sz, sc])
  refine bp_t rfl rfl (by rfl) ⟨?_, hst.keeps⟩
  rfl

set_option maxHeartbeats 1000000 in
theorem srt_times (z n : Int) (h1 : -9 ≤ n) (h2 : n ≤ 9) : Gives Tryz.prog 131 #[W (toW z), .int .i64 n] (W (toW (z * n))) := by
  intro w0
  have hst := St.start [] w0
  obtain ⟨x, hx⟩ : ∃ x : Nat, x = n.natAbs := ⟨_, rfl⟩
  have hxB : x < B := by rw [B_val]; omega
  have hsm := prod_Small (toW z) x (toW_lt z) hxB
  rw [toW_mul] at hsm
  have hm : max n (-n) = (x : Int) := by omega
  have hw : IntKind.u64.wrap (x : Int) = (x : Int) := by rw [u64_wrap, Nat.mod_eq_of_lt hxB]
  by_cases h : n < 0
  · have hneg := wide_Neg (toW (z * x)) (toW_lt _)
    rw [toW_neg] at hneg
    have e : -(z * (x : Int)) = z * n := by rw [← Int.mul_neg]; congr 1; omega
    rw [e] at hneg
    clear e hx hxB
    go_enter Tryz.func131, Tryz.ntmps131
    go_wp2_with ((first | (refine kf gf143 hst (hsm) rfl rfl rfl rfl ?_; clear hst; intro w hst) | (refine kf gf144 hst (hneg) rfl rfl rfl rfl ?_; clear hst; intro w hst) | (refine kb 2 hst rfl rfl ?_; clear hst; intro b2 w hb2 hst) | (refine ka 4 hst tz25 rfl rfl ?_; clear hst; intro b4 w hb4 hst) | (refine kl hst ta25 rfl ?_) | (refine klm hst ta25 rfl ?_) | (refine ka 5 hst tz25 rfl rfl ?_; clear hst; intro b5 w hb5 hst) | (refine kt hst ta25 rfl rfl ?_; clear hst; intro w hst) | (refine ktm hst ta25 rfl rfl ?_; clear hst; intro w hst)); try simp only [pz, pn, sz, sc])
    refine bp_c rfl rfl (la hst ta25) ⟨?_, hst.keeps⟩
    rfl
  · have e : z * (x : Int) = z * n := by congr 1; omega
    rw [e] at hsm
    clear e hx hxB
    go_enter Tryz.func131, Tryz.ntmps131
    go_wp2_with ((first | (refine kf gf143 hst (hsm) rfl rfl rfl rfl ?_; clear hst; intro w hst) | (refine kb 2 hst rfl rfl ?_; clear hst; intro b2 w hb2 hst) | (refine ka 4 hst tz25 rfl rfl ?_; clear hst; intro b4 w hb4 hst) | (refine kl hst ta25 rfl ?_) | (refine klm hst ta25 rfl ?_) | (refine ka 5 hst tz25 rfl rfl ?_; clear hst; intro b5 w hb5 hst) | (refine kt hst ta25 rfl rfl ?_; clear hst; intro w hst) | (refine ktm hst ta25 rfl rfl ?_; clear hst; intro w hst)); try simp only [pz, pn, sz, sc])
    refine bp_c rfl rfl (la hst ta25) ⟨?_, hst.keeps⟩
    rfl

/-- A divisor's row. -/
def trowI (d : Nat) : Int := if d = 0 then 0 else sm (d * 2 ^ clampN (512 - (bl d : Int)) % M / 2 ^ clampN 508)

set_option maxHeartbeats 1000000 in
theorem table_Row (d : Nat) (hd : d < M) : Gives Tryz.prog 127 #[W d] (.tuple #[.int .i64 (trowI d), .bool (!decide (d = 0))]) := by
  intro w0
  have hst := St.start [] w0
  have hlen := wide_Len d hd
  have hl0 := (bl_pos : d ≠ 0 → _)
  unfold trowI
  by_cases h0 : d = 0
  · subst h0
    rw [if_pos rfl]
    have e : bl 0 = 0 := by decide
    rw [e] at hlen
    clear hl0
    go_enter Tryz.func127, Tryz.ntmps127
    go_wp2_with ((first | (refine kf gf90 hst (hlen) rfl rfl rfl rfl ?_; clear hst; intro w hst) | (refine kb 1 hst rfl rfl ?_; clear hst; intro b1 w hb1 hst) | (refine kl hst ta25 rfl ?_) | (refine klm hst ta25 rfl ?_) | (refine ka 5 hst tz25 rfl rfl ?_; clear hst; intro b5 w hb5 hst) | (refine kt hst ta25 rfl rfl ?_; clear hst; intro w hst) | (refine ktm hst ta25 rfl rfl ?_; clear hst; intro w hst) | (refine kc hst tc23 rfl ?_)); try simp only [pz, pn, sz, sc])
    refine bp_tt rfl rfl (by rfl) (by rfl) ⟨?_, hst.keeps⟩
    rfl
  · rw [if_neg h0, decide_eq_false h0]
    have hl1 := hl0 h0
    have h1 := wide_Shl d (512 - (bl d : Int)) hd
    have h2 := wide_Shr (d * 2 ^ clampN (512 - (bl d : Int)) % M) 508 (Nat.mod_lt _ M_pos)
    have hle : bl d ≤ 512 := by
      have key : ∀ m, M = 2 ^ m → m = 512 → bl d ≤ m := fun m e1 e2 => bl_le.2 (e1 ▸ hd)
      exact key (64 * 8) (by rw [M_eq, show B = 2 ^ 64 from rfl, ← Nat.pow_mul]) rfl
    generalize d * 2 ^ clampN (512 - (bl d : Int)) % M = x at *
    generalize bl d = k at *
    generalize x / 2 ^ clampN 508 = y at *
    generalize (!decide (y * 2 ^ clampN 508 = x)) = bb at *
    obtain ⟨q1, q2⟩ := sm_in y
    have e : IntKind.i64.wrap ((lb y 0 : Nat) : Int) = sm y := rfl
    generalize sm y = z at *
    have Q0 : ((k : Int) == 0) = false := by simp; omega
    clear hl0 h0
    go_enter Tryz.func127, Tryz.ntmps127
    go_wp2_with ((first | (refine kf gf90 hst (hlen) rfl rfl rfl rfl ?_; clear hst; intro w hst) | (refine kf gf92 hst (h1) rfl rfl rfl rfl ?_; clear hst; intro w hst) | (refine kf gf121 hst (h2) rfl rfl rfl rfl ?_; clear hst; intro w hst) | (refine kb 1 hst rfl rfl ?_; clear hst; intro b1 w hb1 hst) | (refine kl hst ta25 rfl ?_) | (refine klm hst ta25 rfl ?_) | (refine ka 5 hst tz25 rfl rfl ?_; clear hst; intro b5 w hb5 hst) | (refine kt hst ta25 rfl rfl ?_; clear hst; intro w hst) | (refine ktm hst ta25 rfl rfl ?_; clear hst; intro w hst) | (refine kc hst tc23 rfl ?_)); try simp only [pz, pn, sz, sc])
    refine bp_tt rfl rfl (by rfl) (by rfl) ⟨?_, hst.keeps⟩
    rfl

end Go.Proofs.YtggchelniblipaaGreat.Rd

namespace Go.Proofs.YtggchelniblipaaGreat.Rd
open Go Go.RowKit
set_option linter.unusedVariables false
set_option linter.unusedSimpArgs false
set_option maxRecDepth 100000

theorem on_disable (w : World) : (callFunc 39 #[]).run Tryz.prog w = .ok (.value (.tuple #[])) w := run_call_mark0 Tryz.func39 (by kernel_rfl) (by kernel_rfl) (by kernel_rfl) .disable (by kernel_rfl) w
theorem on_enable (w : World) : (callFunc 41 #[]).run Tryz.prog w = .ok (.value (.tuple #[])) w := run_call_mark0 Tryz.func41 (by kernel_rfl) (by kernel_rfl) (by kernel_rfl) .enable (by kernel_rfl) w
theorem on_acquire (a : Addr) (w : World) : (callFunc 42 #[.pointer (some a)]).run Tryz.prog w = .ok (.value (.tuple #[])) w := run_call_marked Tryz.func42 (by kernel_rfl) (by kernel_rfl) (by kernel_rfl) .acquire (by kernel_rfl) a w
theorem on_release (a : Addr) (w : World) : (callFunc 44 #[.pointer (some a)]).run Tryz.prog w = .ok (.value (.tuple #[])) w := run_call_marked Tryz.func44 (by kernel_rfl) (by kernel_rfl) (by kernel_rfl) .releaseMerge (by kernel_rfl) a w

theorem on_store (a : Addr) (x : Value) (u : FrameMode) (w : World) (hc : w.cell? a = some x) (hz : w.frozen? a = false) :
    CallsD Tryz.prog 34 #[.pointer (some a), .bool true] u w fun e u' w' => u' = u ∧ (e = .returned (.tuple #[]) ∧ w' = w.drew.setCell a (.int .u32 1)) := by
  have hc' : w.drew.cell? a = some x := by go_simp
  have hz' : w.drew.frozen? a = false := by go_simp
  have hst := run_call_store (P := Tryz.prog) Tryz.func37 (by kernel_rfl) (by kernel_rfl) (by kernel_rfl) (by kernel_rfl) (k := .u32) (y := 1) hc' hz'
  go_enter_d Tryz.func34, Tryz.ntmps34
  go_wp2
  go_region_calls
  all_goals (go_end0; exact ⟨rfl, rfl⟩)

theorem on_unlock (a : Addr) (u : FrameMode) (w : World) (hc : w.cell? a = some (.int .i32 1)) (hz : w.frozen? a = false) :
    CallsD Tryz.prog 33 #[.pointer (some a)] u w fun e u' w' => u' = u ∧ (e = .returned (.tuple #[]) ∧ w' = w.setCell a (.int .i32 0)) := by
  have hd := on_disable
  have he := on_enable
  have hr := on_release
  have hadd := run_call_add (P := Tryz.prog) Tryz.func45 (by kernel_rfl) (by kernel_rfl) (by kernel_rfl) .i32 (by kernel_rfl) (y := -1) (s := 0) hc hz (by simp [go_sem]; rfl)
  have hcv := run_convert_to_unsafe (P := Tryz.prog) (src := 116) (dst := 120) Tryz.underlying116 Tryz.underlying120 (by kernel_rfl) hc
  go_enter_d Tryz.func33, Tryz.ntmps33
  go_wp2
  go_end0
  go_wp2
  go_end0
  exact ⟨rfl, rfl⟩

theorem on_lock (a : Addr) (w : World) (hc : w.cell? a = some (.int .i32 0)) (hz : w.frozen? a = false) :
    Calls Tryz.prog 32 #[.pointer (some a)] w fun e w' => e = .returned (.tuple #[]) ∧ w' = w.setCell a (.int .i32 1) := by
  have hd := on_disable
  have he := on_enable
  have ha := on_acquire
  have hcas := run_call_cas_hit (P := Tryz.prog) Tryz.func40 (by kernel_rfl) (by kernel_rfl) (by kernel_rfl) .i32 (by kernel_rfl) (y := 1) hc hz
  have hc' : (w.setCell a (.int .i32 1)).cell? a = some (.int .i32 1) := World.cell?_setCell_same w a _ hc
  have hcv := run_convert_to_unsafe (P := Tryz.prog) (src := 116) (dst := 120) Tryz.underlying116 Tryz.underlying120 (by kernel_rfl) hc'
  go_enter Tryz.func32, Tryz.ntmps32
  go_wp2
  first | go_end0 | (simp only [Exit.inBlock, Exit.then]; refine bodyPost_ret (results_none rfl _ _ _) rfl ?_) | refine bodyPost_ret (results_none rfl _ _ _) rfl ?_
  go_wp2
  go_end0
  exact ⟨rfl, rfl⟩

set_option maxHeartbeats 1600000 in
theorem on_slow (f : FuncId) (hf : GoF Tryz.prog f) (cap : Array Value) (b off : Nat) (R : World → Prop) (w : World)
    (h0 : w.cell? ⟨b, off, none⟩ = some (.int .u32 0)) (h1 : w.cell? ⟨b, off + 1, none⟩ = some (.int .i32 0)) (f0 : w.frozen? ⟨b, off, none⟩ = false) (f1 : w.frozen? ⟨b, off + 1, none⟩ = false)
    (hc : Calls Tryz.prog f cap (w.setCell ⟨b, off + 1, none⟩ (.int .i32 1)) fun e w2 => e = .returned (.tuple #[]) ∧ (∃ x, w2.cell? ⟨b, off, none⟩ = some x) ∧ w2.frozen? ⟨b, off, none⟩ = false ∧ w2.cell? ⟨b, off + 1, none⟩ = some (.int .i32 1) ∧ w2.frozen? ⟨b, off + 1, none⟩ = false ∧ R w2) :
    Calls Tryz.prog 30 #[.pointer (some ⟨b, off, none⟩), .func (.func f) #[] cap] w fun e w' => e = .returned (.tuple #[]) ∧ ∃ w2, R w2 ∧ w' = (w2.drew.setCell ⟨b, off, none⟩ (.int .u32 1)).setCell ⟨b, off + 1, none⟩ (.int .i32 0) := by
  have hl := run_call_load (P := Tryz.prog) Tryz.func31 (by kernel_rfl) (by kernel_rfl) (by kernel_rfl) .u32 (by kernel_rfl) (w := w.setCell ⟨b, off + 1, none⟩ (.int .i32 1)) (a := ⟨b, off, none⟩) (x := 0) ((World.cell?_setCell_other _ ⟨b, off + 1, none⟩ ⟨b, off, none⟩ _ (by simp)).trans h0)
  have hnot : ∀ (x : Bool) (w : World), (Op.unary .not (.bool x)).run Tryz.prog w = .ok (.bool (!x)) w := fun _ _ => rfl
  go_enter_defers Tryz.func30, Tryz.ntmps30
  go_wp2_with (go_at_call 32; refine (on_lock ⟨b, off + 1, none⟩ _ (by go_simp) (by go_simp)).mono ?_; rintro e w' ⟨rfl, rfl⟩)
  go_wp2
  rw [run_callFunc_go hf, Oper.upon_enter]
  refine hc.mono ?_
  rintro e w2 ⟨rfl, ⟨x, hx⟩, z0, c1, z1, hR⟩
  go_wp2
  -- the door: two deferred calls, the last laid first
  refine leaves_cons (f := 34) (args := #[.pointer (some ⟨b, off, none⟩), .bool true]) (by simp) (by simp [go_sem]) ?_
  refine (on_store ⟨b, off, none⟩ x .returning _ hx z0).mono ?_
  rintro e u' w'' ⟨rfl, rfl, rfl⟩
  refine leaves_cons (f := 33) (args := #[.pointer (some ⟨b, off + 1, none⟩)]) (by simp [settle]) (by simp [go_sem]) ?_
  refine (on_unlock ⟨b, off + 1, none⟩ _ _ ?_ (by simp [z1])).mono ?_
  · refine (World.cell?_setCell_other _ ⟨b, off, none⟩ ⟨b, off + 1, none⟩ _ (by simp)).trans ?_
    rw [World.cell?_drew]; exact c1
  rintro e u' w'' ⟨rfl, rfl, rfl⟩
  simp [Leaves, settle, results, Tryz.results30]
  exact ⟨w2, hR, rfl⟩

/-- Do, not yet done, the lock free. -/
theorem on_do (f : FuncId) (hf : GoF Tryz.prog f) (cap : Array Value) (b off : Nat) (R : World → Prop) (w : World)
    (h0 : w.cell? ⟨b, off, none⟩ = some (.int .u32 0)) (h1 : w.cell? ⟨b, off + 1, none⟩ = some (.int .i32 0)) (f0 : w.frozen? ⟨b, off, none⟩ = false) (f1 : w.frozen? ⟨b, off + 1, none⟩ = false)
    (hc : Calls Tryz.prog f cap (w.setCell ⟨b, off + 1, none⟩ (.int .i32 1)) fun e w2 => e = .returned (.tuple #[]) ∧ (∃ x, w2.cell? ⟨b, off, none⟩ = some x) ∧ w2.frozen? ⟨b, off, none⟩ = false ∧ w2.cell? ⟨b, off + 1, none⟩ = some (.int .i32 1) ∧ w2.frozen? ⟨b, off + 1, none⟩ = false ∧ R w2) :
    Calls Tryz.prog 23 #[.pointer (some ⟨b, off, none⟩), .func (.func f) #[] cap] w fun e w' => e = .returned (.tuple #[]) ∧ ∃ w2, R w2 ∧ w' = (w2.drew.setCell ⟨b, off, none⟩ (.int .u32 1)).setCell ⟨b, off + 1, none⟩ (.int .i32 0) := by
  have hl := run_call_load (P := Tryz.prog) Tryz.func31 (by kernel_rfl) (by kernel_rfl) (by kernel_rfl) .u32 (by kernel_rfl) h0
  have hnot : ∀ (x : Bool) (w : World), (Op.unary .not (.bool x)).run Tryz.prog w = .ok (.bool (!x)) w := fun _ _ => rfl
  go_enter Tryz.func23, Tryz.ntmps23
  go_wp2_with (first | (go_at_call 30; refine (on_slow f hf cap b off R _ h0 h1 f0 f1 hc).mono ?_; rintro e w' ⟨rfl, w2, hR, rfl⟩) | (go_at_call 29; go_in))
  go_end0
  exact ⟨rfl, w2, hR, rfl⟩

/-- Do, done already. -/
theorem on_done (a : Addr) (d : Int) (hd : ¬ d = 0) (fv : Value) (w : World) (h0 : w.cell? a = some (.int .u32 d)) :
    Calls Tryz.prog 23 #[.pointer (some a), fv] w fun e w' => e = .returned (.tuple #[]) ∧ w' = w := by
  have hl := run_call_load (P := Tryz.prog) Tryz.func31 (by kernel_rfl) (by kernel_rfl) (by kernel_rfl) .u32 (by kernel_rfl) h0
  have hnot : ∀ (x : Bool) (w : World), (Op.unary .not (.bool x)).run Tryz.prog w = .ok (.bool (!x)) w := fun _ _ => rfl
  have hd' : (d != 0) = true := by simp [hd]
  go_enter Tryz.func23, Tryz.ntmps23
  go_wp2
  go_end0
  exact ⟨rfl, rfl⟩

end Go.Proofs.YtggchelniblipaaGreat.Rd
