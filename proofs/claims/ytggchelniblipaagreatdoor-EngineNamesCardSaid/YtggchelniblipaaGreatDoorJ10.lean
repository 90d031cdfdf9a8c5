/- What table.RootBounds, RootDigit and srtroot.begin, next answer. -/
import Derived.Test.YtggchelniblipaaGreatDoorJ09
namespace Go.Proofs.YtggchelniblipaaGreatDoor.Rd
open Go Go.RowKit
set_option linter.unusedVariables false
set_option linter.unusedSimpArgs false
set_option maxRecDepth 100000

set_option maxHeartbeats 4000000 in
theorem table_RootBounds (j : Nat) (s : Int) (h1 : 28 ≤ s) (h2 : s ≤ 64) : Gives Tryz.prog 149 #[.int .i64 j, .int .i64 s] (.tuple #[.agg (pb (3 * s + rsq j 9) (s + rsq j 1) (-s + rsq j 1) (-3 * s + rsq j 9)), .bool true]) := by
  intro w0
  have hst := St.start [] w0
  have q9 := table_square j 9 (by omega) (by omega)
  have q1 := table_square j 1 (by omega) (by omega)
  have r9 : 0 ≤ rsq j 9 ∧ rsq j 9 ≤ 36 := by unfold rsq; split <;> (try split) <;> (try split) <;> omega
  have r1 : 0 ≤ rsq j 1 ∧ rsq j 1 ≤ 4 := by unfold rsq; split <;> (try split) <;> (try split) <;> omega
  generalize rsq j 9 = x9 at *
  generalize rsq j 1 = x1 at *
  obtain ⟨r90, r91⟩ := r9
  obtain ⟨r10, r11⟩ := r1
  have j0 : ¬ ((j : Int) < 0) := by omega
  have s0 : ¬ (s < 28) := by omega
  have s1 : ¬ ((64 : Int) < s) := by omega
  have hset := Lib.hid (rbs_set (3 * s + x9) (s + x1) (-s + x1) (-3 * s + x9))
  have hsz := Lib.hid (rbs_size (3 * s + x9) (s + x1) (-s + x1) (-3 * s + x9))
  have hbn : ∀ k, k < 4 → bnd (3 * s + x9) (s + x1) (-s + x1) (-3 * s + x9) k = (3 - 2 * (k : Int)) * s + (if k = 0 ∨ k = 3 then x9 else x1) := fun k hk => by
    have : k = 0 ∨ k = 1 ∨ k = 2 ∨ k = 3 := by omega
    rcases this with rfl | rfl | rfl | rfl <;> simp [bnd] <;> omega
  have hbn' := Lib.hid hbn
  have hz : pb 0 0 0 0 = rbs (3 * s + x9) (s + x1) (-s + x1) (-3 * s + x9) 0 := rfl
  have hend : rbs (3 * s + x9) (s + x1) (-s + x1) (-3 * s + x9) 4 = pb (3 * s + x9) (s + x1) (-s + x1) (-3 * s + x9) := rfl
  rw [← hend]
  have hz' := Lib.hid hz
  have hone' : OneC (rbs (3 * s + x9) (s + x1) (-s + x1) (-3 * s + x9) 4) := ⟨by kernel_rfl⟩
  clear hz hend hbn
  generalize rbs (3 * s + x9) (s + x1) (-s + x1) (-3 * s + x9) = rb at *
  generalize bnd (3 * s + x9) (s + x1) (-s + x1) (-3 * s + x9) = bf at *
  go_enter Tryz.func149, Tryz.ntmps149
  go_wp2_with ((first | (refine ka 4 hst tz204 rfl rfl ?_; clear hst; intro b4 w hb4 hst) | (refine ka 6 hst tz204 rfl rfl ?_; clear hst; intro b6 w hb6 hst) | (refine kl hst ta204 rfl ?_) | (refine klm hst ta204 rfl ?_) | (refine kt hst ta204 rfl rfl ?_; clear hst; intro w hst) | (refine ktm hst ta204 rfl rfl ?_; clear hst; intro w hst) | (refine ks hst tc3 rfl rfl ?_; clear hst; intro w hst)); try simp only [pz, pn, sz, sc])
  go_loopw [7, 8, 20] (fun u v i wr => ∃ k : Nat, k ≤ 4 ∧ i = .int .i64 k ∧ St w0 [] [(b6, .cells (rb k) 204), (b4, .cells (pb 0 0 0 0) 204)] wr) (fun _ _ i _ => 4 - (intOf i).toNat)
  case atStart => exact ⟨0, by omega, rfl, by rw [← hz'.out]; exact hst⟩
  case round =>
    clear hst
    obtain ⟨k, hk, rfl, hst⟩ := hrel
    have hszk := hsz.out k
    by_cases hlt : k < 4
    · have hi0 : (0 : Int) ≤ (k : Int) := by omega
      have hi8 : (k : Int) < 4 := by omega
      have hk4 : k = 0 ∨ k = 1 ∨ k = 2 ∨ k = 3 := by omega
      have hlt4 : k < (rb k).size := by omega
      have hsk := hset.out k hlt
      rw [hbn'.out k hlt] at hsk
      rcases hk4 with rfl | rfl | rfl | rfl
      · have e : (3 - 2 * ((0 : Nat) : Int)) * s + (if (0 : Nat) = 0 ∨ (0 : Nat) = 3 then x9 else x1) = 3 * s + x9 := by simp
        rw [e] at hsk
        have hsk' := Lib.hid hsk
        clear hsk hk hlt e
        simp only [Int.natCast_zero]
        go_wp2_with ((first | (refine kf gf153 hst (q9) rfl rfl rfl rfl ?_; clear hst; intro w hst) | (refine ka 4 hst tz204 rfl rfl ?_; clear hst; intro b4 w hb4 hst) | (refine ka 6 hst tz204 rfl rfl ?_; clear hst; intro b6 w hb6 hst) | (refine kl hst ta204 rfl ?_) | (refine klm hst ta204 rfl ?_) | (refine kt hst ta204 rfl rfl ?_; clear hst; intro w hst) | (refine ktm hst ta204 rfl rfl ?_; clear hst; intro w hst) | (refine ks hst tc3 rfl rfl ?_; clear hst; intro w hst)); try simp only [pz, pn, sz, sc])
        rw [hsk'.out] at hst
        exact ⟨⟨1, by omega, rfl, hst⟩, by simp [intOf]⟩
      · have e : (3 - 2 * ((1 : Nat) : Int)) * s + (if (1 : Nat) = 0 ∨ (1 : Nat) = 3 then x9 else x1) = s + x1 := by simp
        rw [e] at hsk
        have hsk' := Lib.hid hsk
        clear hsk hk hlt e
        simp only [Int.natCast_one]
        go_wp2_with ((first | (refine kf gf153 hst (q1) rfl rfl rfl rfl ?_; clear hst; intro w hst) | (refine ka 4 hst tz204 rfl rfl ?_; clear hst; intro b4 w hb4 hst) | (refine ka 6 hst tz204 rfl rfl ?_; clear hst; intro b6 w hb6 hst) | (refine kl hst ta204 rfl ?_) | (refine klm hst ta204 rfl ?_) | (refine kt hst ta204 rfl rfl ?_; clear hst; intro w hst) | (refine ktm hst ta204 rfl rfl ?_; clear hst; intro w hst) | (refine ks hst tc3 rfl rfl ?_; clear hst; intro w hst)); try simp only [pz, pn, sz, sc])
        rw [hsk'.out] at hst
        exact ⟨⟨2, by omega, rfl, hst⟩, by simp [intOf]⟩
      · have e : (3 - 2 * ((2 : Nat) : Int)) * s + (if (2 : Nat) = 0 ∨ (2 : Nat) = 3 then x9 else x1) = -s + x1 := by simp
        rw [e] at hsk
        have hsk' := Lib.hid hsk
        clear hsk hk hlt e
        simp only [Int.cast_ofNat_Int]
        go_wp2_with ((first | (refine kf gf153 hst (q1) rfl rfl rfl rfl ?_; clear hst; intro w hst) | (refine ka 4 hst tz204 rfl rfl ?_; clear hst; intro b4 w hb4 hst) | (refine ka 6 hst tz204 rfl rfl ?_; clear hst; intro b6 w hb6 hst) | (refine kl hst ta204 rfl ?_) | (refine klm hst ta204 rfl ?_) | (refine kt hst ta204 rfl rfl ?_; clear hst; intro w hst) | (refine ktm hst ta204 rfl rfl ?_; clear hst; intro w hst) | (refine ks hst tc3 rfl rfl ?_; clear hst; intro w hst)); try simp only [pz, pn, sz, sc])
        rw [hsk'.out] at hst
        exact ⟨⟨3, by omega, rfl, hst⟩, by simp [intOf]⟩
      · have e : (3 - 2 * ((3 : Nat) : Int)) * s + (if (3 : Nat) = 0 ∨ (3 : Nat) = 3 then x9 else x1) = -3 * s + x9 := by simp
        rw [e] at hsk
        have hsk' := Lib.hid hsk
        clear hsk hk hlt e
        simp only [Int.cast_ofNat_Int]
        go_wp2_with ((first | (refine kf gf153 hst (q9) rfl rfl rfl rfl ?_; clear hst; intro w hst) | (refine ka 4 hst tz204 rfl rfl ?_; clear hst; intro b4 w hb4 hst) | (refine ka 6 hst tz204 rfl rfl ?_; clear hst; intro b6 w hb6 hst) | (refine kl hst ta204 rfl ?_) | (refine klm hst ta204 rfl ?_) | (refine kt hst ta204 rfl rfl ?_; clear hst; intro w hst) | (refine ktm hst ta204 rfl rfl ?_; clear hst; intro w hst) | (refine ks hst tc3 rfl rfl ?_; clear hst; intro w hst)); try simp only [pz, pn, sz, sc])
        rw [hsk'.out] at hst
        exact ⟨⟨4, by omega, rfl, hst⟩, by simp [intOf]⟩
    · have : k = 4 := by omega
      subst this
      go_wp2_with ((first | (refine ka 4 hst tz204 rfl rfl ?_; clear hst; intro b4 w hb4 hst) | (refine ka 6 hst tz204 rfl rfl ?_; clear hst; intro b6 w hb6 hst) | (refine kl hst ta204 rfl ?_) | (refine klm hst ta204 rfl ?_) | (refine kt hst ta204 rfl rfl ?_; clear hst; intro w hst) | (refine ktm hst ta204 rfl rfl ?_; clear hst; intro w hst) | (refine ks hst tc3 rfl rfl ?_; clear hst; intro w hst)); try simp only [pz, pn, sz, sc])
      refine bp_ct rfl rfl (la hst ta204) (by rfl) ⟨?_, hst.keeps⟩
      rfl

set_option maxHeartbeats 1000000 in
theorem table_RootDigit (j : Nat) (s y : Int) (h1 : 28 ≤ s) (h2 : s ≤ 64) : Gives Tryz.prog 139 #[.int .i64 j, .int .i64 s, .int .i64 y] (.tuple #[.int .i64 (rdig j s y), .bool true]) := by
  intro w0
  have hst := St.start [] w0
  have hb := table_RootBounds j s h1 h2
  have hp := table_pick (3 * s + rsq j 9) (s + rsq j 1) (-s + rsq j 1) (-3 * s + rsq j 9) y
  have e : pickD (3 * s + rsq j 9) (s + rsq j 1) (-s + rsq j 1) (-3 * s + rsq j 9) y = rdig j s y := rfl
  rw [e] at hp
  have hsz : (pb (3 * s + rsq j 9) (s + rsq j 1) (-s + rsq j 1) (-3 * s + rsq j 9)).size = 4 := rfl
  have hone : OneC (pb (3 * s + rsq j 9) (s + rsq j 1) (-s + rsq j 1) (-3 * s + rsq j 9)) := ⟨by kernel_rfl⟩
  generalize pb (3 * s + rsq j 9) (s + rsq j 1) (-s + rsq j 1) (-3 * s + rsq j 9) = cs at *
  generalize rdig j s y = d at *
  clear e
  go_enter Tryz.func139, Tryz.ntmps139
  go_wp2_with ((first | (refine kf gf149 hst (hb) rfl rfl rfl rfl ?_; clear hst; intro w hst) | (refine kf gf144 hst (hp) rfl rfl rfl rfl ?_; clear hst; intro w hst) | (refine ka 8 hst tz204 rfl rfl ?_; clear hst; intro b8 w hb8 hst) | (refine kt hst ta204 rfl rfl ?_; clear hst; intro w hst) | (refine ktm hst ta204 rfl rfl ?_; clear hst; intro w hst) | (refine kl hst ta204 rfl ?_) | (refine klm hst ta204 rfl ?_)); try simp only [pz, pn, sz, sc])
  refine bp_tt rfl rfl (by rfl) (by rfl) ⟨?_, hst.keeps⟩
  rfl

/-- What one is far: the root so far, what is left. -/
def farC (p l : Int) : Array Value := wc 8 (toW p) ++ wc 8 (toW l)
theorem farC_size (p l : Int) : (farC p l).size = 16 := by simp [farC]
theorem app_one (a b : Nat) : OneC (wc 8 a ++ wc 8 b) := ⟨by rw [Array.all_append, wc_one, wc_one]; rfl⟩
theorem farC_one (p l : Int) : OneC (farC p l) := app_one _ _

theorem toW_pow (k : Nat) (h : k < 512) : toW ((2 ^ k : Nat) : Int) = 2 ^ k := toW_nat _ (pow_M h)

set_option maxHeartbeats 4000000 in
theorem srtroot_begin (n : Nat) (hn : n < M) : Gives Tryz.prog 138 #[W n] (.agg (farC ((2 ^ 128 : Nat) : Int) ((n : Int) - (2 ^ 256 : Nat)))) := by
  intro w0
  have hst := St.start [] w0
  have h1 := wide_Power 256
  have e1 : pow2 256 = toW ((2 ^ 256 : Nat) : Int) := by rw [toW_pow 256 (by omega)]; unfold pow2; rw [if_pos (by omega)]; rfl
  rw [e1] at h1
  have h2 := wide_Power 128
  have e2 : pow2 128 = toW ((2 ^ 128 : Nat) : Int) := by rw [toW_pow 128 (by omega)]; unfold pow2; rw [if_pos (by omega)]; rfl
  rw [e2] at h2
  have h3 := wide_Sub (toW (n : Int)) (toW ((2 ^ 256 : Nat) : Int)) (toW_lt _) (toW_lt _)
  rw [toW_sub, toW_nat n hn] at h3
  unfold farC
  clear e1 e2
  generalize toW ((2 ^ 256 : Nat) : Int) = x at *
  generalize toW ((2 ^ 128 : Nat) : Int) = z at *
  generalize toW ((n : Int) - (2 ^ 256 : Nat)) = y at *
  have h16 : (wc 8 z ++ wc 8 y).size = 16 := by simp
  have hone := app_one z y
  go_enter Tryz.func138, Tryz.ntmps138
  go_wp2_with ((first | (refine kb 1 hst rfl rfl ?_; clear hst; intro b1 w hb1 hst) | (refine ka 2 hst tz193 rfl rfl ?_; clear hst; intro b2 w hb2 hst) | (refine kl hst ta24 rfl ?_) | (refine klm hst ta24 rfl ?_) | (refine ka 3 hst tz24 rfl rfl ?_; clear hst; intro b3 w hb3 hst) | (refine kt hst ta24 rfl rfl ?_; clear hst; intro w hst) | (refine ktm hst ta24 rfl rfl ?_; clear hst; intro w hst) | (refine kB (tb193_01 _ _) rfl ?_) | (refine kt hst ta193 rfl rfl ?_; clear hst; intro w hst) | (refine ktm hst ta193 rfl rfl ?_; clear hst; intro w hst)); try simp only [pz, pn, sz, sc])
  refine wp_region_T 7  hst (by kernel_rfl) ?_; clear hst; intro w hst; (try dsimp only [List.length_cons, List.length_nil]); (try simp only [List.length_cons, List.length_nil, Nat.reduceAdd, Array.replicate_succ, Array.replicate_zero, List.push_toArray, List.nil_append, List.cons_append])
  refine rl 0 rfl ?_ (by first | exact ylA ta24 | exact ylM ta24); simp only [pz, pn, sz, sc]
  refine r2 1 6 ?_ ?_
  (first | (refine kf gf97 hst (h1) rfl rfl rfl rfl ?_; clear hst; intro w hst) | (refine kf gf95 hst (h3) rfl rfl rfl rfl ?_; clear hst; intro w hst) | (refine kp ?_)); (try simp only [pz, pn, sz, sc]); refine re ?_
  refine r2 2 6 ?_ ?_
  (first | (refine kf gf97 hst (h1) rfl rfl rfl rfl ?_; clear hst; intro w hst) | (refine kf gf95 hst (h3) rfl rfl rfl rfl ?_; clear hst; intro w hst) | (refine kp ?_)); (try simp only [pz, pn, sz, sc]); refine re ?_
  refine r0 3 ?_; simp only [pz, pn, sz, sc]
  refine r0 4 ?_; simp only [pz, pn, sz, sc]
  refine r0 5 ?_; simp only [pz, pn, sz, sc]
  refine r1 6 ?_; (refine ka 3 hst tz24 rfl rfl ?_; clear hst; intro b3 w hb3 hst); (try simp only [pz, pn, sz, sc]); refine re ?_
  refine r1 7 ?_; (first | (refine kt hst ta24 rfl rfl ?_; clear hst; intro w hst) | (refine ktm hst ta24 rfl rfl ?_; clear hst; intro w hst)); (try simp only [pz, pn, sz, sc]); refine re ?_
  refine r0 8 ?_; simp only [pz, pn, sz, sc]
  refine rd_ ?_
  rotate_left 1
  (refine ka 3 hst tz24 rfl rfl ?_; clear hst; intro b3 w hb3 hst); (try simp only [pz, pn, sz, sc]); refine re ?_
  refine r1 2 ?_; (first | (refine kf gf97 hst (h1) rfl rfl rfl rfl ?_; clear hst; intro w hst) | (refine kf gf95 hst (h3) rfl rfl rfl rfl ?_; clear hst; intro w hst) | (refine kp ?_)); (try simp only [pz, pn, sz, sc]); refine re ?_
  refine r0 3 ?_; simp only [pz, pn, sz, sc]
  refine r0 4 ?_; simp only [pz, pn, sz, sc]
  refine r0 5 ?_; simp only [pz, pn, sz, sc]
  refine r1 7 ?_; (first | (refine kt hst ta24 rfl rfl ?_; clear hst; intro w hst) | (refine ktm hst ta24 rfl rfl ?_; clear hst; intro w hst)); (try simp only [pz, pn, sz, sc]); refine re ?_
  refine r0 8 ?_; simp only [pz, pn, sz, sc]
  refine rd_ ?_
  rotate_right 1
  rotate_left 2
  (refine ka 3 hst tz24 rfl rfl ?_; clear hst; intro b3 w hb3 hst); (try simp only [pz, pn, sz, sc]); refine re ?_
  refine r1 1 ?_; (first | (refine kf gf97 hst (h1) rfl rfl rfl rfl ?_; clear hst; intro w hst) | (refine kf gf95 hst (h3) rfl rfl rfl rfl ?_; clear hst; intro w hst) | (refine kp ?_)); (try simp only [pz, pn, sz, sc]); refine re ?_
  refine r1 2 ?_; (first | (refine kf gf97 hst (h1) rfl rfl rfl rfl ?_; clear hst; intro w hst) | (refine kf gf95 hst (h3) rfl rfl rfl rfl ?_; clear hst; intro w hst) | (refine kp ?_)); (try simp only [pz, pn, sz, sc]); refine re ?_
  refine r0 3 ?_; simp only [pz, pn, sz, sc]
  refine r0 4 ?_; simp only [pz, pn, sz, sc]
  refine r0 5 ?_; simp only [pz, pn, sz, sc]
  refine r1 7 ?_; (first | (refine kt hst ta24 rfl rfl ?_; clear hst; intro w hst) | (refine ktm hst ta24 rfl rfl ?_; clear hst; intro w hst)); (try simp only [pz, pn, sz, sc]); refine re ?_
  refine r0 8 ?_; simp only [pz, pn, sz, sc]
  refine rd_ ?_
  rotate_right 2
  all_goals
    go_wp2_with ((first | (refine kb 1 hst rfl rfl ?_; clear hst; intro b1 w hb1 hst) | (refine ka 2 hst tz193 rfl rfl ?_; clear hst; intro b2 w hb2 hst) | (refine kl hst ta24 rfl ?_) | (refine klm hst ta24 rfl ?_) | (refine ka 3 hst tz24 rfl rfl ?_; clear hst; intro b3 w hb3 hst) | (refine kt hst ta24 rfl rfl ?_; clear hst; intro w hst) | (refine ktm hst ta24 rfl rfl ?_; clear hst; intro w hst) | (refine kB (tb193_01 _ _) rfl ?_) | (refine kt hst ta193 rfl rfl ?_; clear hst; intro w hst) | (refine ktm hst ta193 rfl rfl ?_; clear hst; intro w hst)); try simp only [pz, pn, sz, sc])
    refine wp_region_T 3  hst (by kernel_rfl) ?_; clear hst; intro w hst; (try dsimp only [List.length_cons, List.length_nil]); (try simp only [List.length_cons, List.length_nil, Nat.reduceAdd, Array.replicate_succ, Array.replicate_zero, List.push_toArray, List.nil_append, List.cons_append])
    refine rl 1 rfl ?_ (by first | exact ylA ta24 | exact ylM ta24); simp only [pz, pn, sz, sc]
    refine r1 0 ?_; (first | (refine kf gf97 hst (h2) rfl rfl rfl rfl ?_; clear hst; intro w hst) | (refine kp ?_)); (try simp only [pz, pn, sz, sc]); refine re ?_
    refine r0 2 ?_ (hy := yB (tb193_01 _ _)); simp only [pz, pn, sz, sc]
    refine r1 3 ?_; (first | (refine kt hst ta193 rfl rfl ?_; clear hst; intro w hst) | (refine ktm hst ta193 rfl rfl ?_; clear hst; intro w hst)); (try simp only [pz, pn, sz, sc]); refine re ?_
    refine rd_ ?_
    go_wp2_with ((first | (refine kb 1 hst rfl rfl ?_; clear hst; intro b1 w hb1 hst) | (refine ka 2 hst tz193 rfl rfl ?_; clear hst; intro b2 w hb2 hst) | (refine kl hst ta24 rfl ?_) | (refine klm hst ta24 rfl ?_) | (refine ka 3 hst tz24 rfl rfl ?_; clear hst; intro b3 w hb3 hst) | (refine kt hst ta24 rfl rfl ?_; clear hst; intro w hst) | (refine ktm hst ta24 rfl rfl ?_; clear hst; intro w hst) | (refine kB (tb193_01 _ _) rfl ?_) | (refine kt hst ta193 rfl rfl ?_; clear hst; intro w hst) | (refine ktm hst ta193 rfl rfl ?_; clear hst; intro w hst)); try simp only [pz, pn, sz, sc])
    refine bp_c rfl rfl (la hst ta193) ⟨?_, hst.keeps⟩
    rfl

end Go.Proofs.YtggchelniblipaaGreatDoor.Rd
