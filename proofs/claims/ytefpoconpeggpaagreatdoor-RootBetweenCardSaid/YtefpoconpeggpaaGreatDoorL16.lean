/- The dividers' mathematics: how near the guesses come. -/
import Derived.Test.YtefpoconpeggpaaGreatDoorL15
import Derived.Test.YtefpoconpeggpaaGreatDoorL02
namespace Go.Proofs.YtefpoconpeggpaaGreatDoor.Rd
open Go Go.RowKit
set_option linter.unusedVariables false
set_option linter.unusedSimpArgs false
set_option maxRecDepth 100000

theorem toW_shl (z : Int) (c : Nat) (hc : c ≤ 512) : Gives Tryz.prog 48 #[W (toW z), .int .i64 (c : Int)] (W (toW (z * (2 ^ c : Nat)))) := by
  have h := wide_Shl (toW z) (c : Int) (toW_lt z)
  rw [clampN_nat c hc, toW_mul] at h
  exact h
theorem toW_power (c : Nat) (hc : c < 512) : Gives Tryz.prog 127 #[.int .i64 (c : Int)] (W (toW ((2 ^ c : Nat) : Int))) := by
  have h := wide_Power (c : Int)
  rw [show pow2 (c : Int) = toW ((2 ^ c : Nat) : Int) by rw [toW_pow c hc]; unfold pow2; rw [if_pos (by omega)]; rfl] at h
  exact h
theorem toW_Sub (a b : Int) : ∃ c, Gives Tryz.prog 122 #[W (toW a), W (toW b)] (.tuple #[W (toW (a - b)), .bool c]) := by
  have h := wide_Sub (toW a) (toW b) (toW_lt a) (toW_lt b)
  rw [toW_sub] at h
  exact ⟨_, h⟩
theorem toW_Add (a b : Int) : ∃ c, Gives Tryz.prog 104 #[W (toW a), W (toW b)] (.tuple #[W (toW (a + b)), .bool c]) := by
  have h := wide_Add (toW a) (toW b) (toW_lt a) (toW_lt b)
  rw [toW_add] at h
  exact ⟨_, h⟩

set_option maxHeartbeats 8000000 in
theorem srtroot_next (p l d p' l' : Int) (c : Nat) (hc : c ≤ 200) (hd1 : -2 ≤ d) (hd2 : d ≤ 2) (hp : p' = p + (2 ^ c : Nat) * d) (hl : l' = l - p * (2 ^ (c + 1) : Nat) * d - (2 ^ (2 * c) : Nat) * (d * d)) :
    Gives Tryz.prog 233 #[.agg (farC p l), .int .i64 d, .int .i64 (c : Int)] (.agg (farC p' l')) := by
  intro w0
  have hst := St.start [] w0
  have hdd : 0 ≤ d * d ∧ d * d ≤ 4 := by
    have : d = -2 ∨ d = -1 ∨ d = 0 ∨ d = 1 ∨ d = 2 := by omega
    rcases this with rfl | rfl | rfl | rfl | rfl <;> decide
  have h1 := toW_shl p (c + 1) (by omega)
  rw [show ((c + 1 : Nat) : Int) = (c : Int) + 1 by omega] at h1
  have h2 := srtroot_times (p * (2 ^ (c + 1) : Nat)) d (by omega) (by omega)
  obtain ⟨s1, h3⟩ := toW_Sub l (p * (2 ^ (c + 1) : Nat) * d)
  have h4 := toW_power (2 * c) (by omega)
  rw [show ((2 * c : Nat) : Int) = 2 * (c : Int) by omega] at h4
  have h5 := srtroot_times ((2 ^ (2 * c) : Nat) : Int) (d * d) (by omega) (by omega)
  obtain ⟨s2, h6⟩ := toW_Sub (l - p * (2 ^ (c + 1) : Nat) * d) (((2 ^ (2 * c) : Nat) : Int) * (d * d))
  rw [← hl] at h6
  have h7 := toW_power c (by omega)
  have h8 := srtroot_times ((2 ^ c : Nat) : Int) d (by omega) (by omega)
  obtain ⟨s3, h9⟩ := toW_Add p (((2 ^ c : Nat) : Int) * d)
  rw [← hp] at h9
  have w1 : IntKind.i64.wrap (2 * (c : Int)) = 2 * (c : Int) := i64w _ (by omega) (by omega)
  have w2 : IntKind.i64.wrap (d * d) = d * d := i64w _ (by omega) (by omega)
  unfold farC
  clear hp hl
  generalize toW ((2 ^ (2 * c) : Nat) : Int) = x1 at *
  generalize toW ((2 ^ c : Nat) : Int) = x2 at *
  generalize toW (p * (2 ^ (c + 1) : Nat)) = x3 at *
  generalize toW (p * (2 ^ (c + 1) : Nat) * d) = x4 at *
  generalize toW (l - p * (2 ^ (c + 1) : Nat) * d) = x5 at *
  generalize toW (((2 ^ (2 * c) : Nat) : Int) * (d * d)) = x6 at *
  generalize toW (((2 ^ c : Nat) : Int) * d) = x7 at *
  generalize toW p = y1 at *
  generalize toW l = y2 at *
  generalize toW p' = y3 at *
  generalize toW l' = y4 at *
  have k1 : (wc 8 y1 ++ wc 8 y2).size = 16 := by simp
  have k2 : (wc 8 y3 ++ wc 8 y4).size = 16 := by simp
  have k3 := app_one y3 y4
  go_enter Tryz.func233, Tryz.ntmps233
  go_wp2_with ((first | (refine kf gf48 hst (h1) rfl rfl rfl rfl ?_; clear hst; intro w hst) | (refine kb 3 hst rfl rfl ?_; clear hst; intro b3 w hb3 hst) | (refine ka 6 hst tz278 rfl rfl ?_; clear hst; intro b6 w hb6 hst) | (refine klm hst ta44 rfl ?_) | (refine ka 7 hst tz44 rfl rfl ?_; clear hst; intro b7 w hb7 hst) | (refine kt hst ta44 rfl rfl ?_; clear hst; intro w hst)); try simp only [pz, pn, sz, sc])
  refine wp_region_T 10  hst (by kernel_rfl) ?_; clear hst; intro w hst; (try simp only [List.length_cons, List.length_nil, Nat.reduceAdd, Array.replicate_succ, Array.replicate_zero, List.push_toArray, List.nil_append, List.cons_append])
  refine r0 0 ?_; simp only [pz, pn, sz, sc]
  refine r0 3 ?_; simp only [pz, pn, sz, sc]
  refine rl 1 rfl ?_ (by first | exact ylA ta44 | exact ylM ta44); simp only [pz, pn, sz, sc]
  refine rl 2 rfl ?_ (by first | exact ylA ta44 | exact ylM ta44); simp only [pz, pn, sz, sc]
  refine r2 4 9 ?_ ?_
  (refine kf gf236 hst (h2) rfl rfl rfl rfl ?_; clear hst; intro w hst); (try simp only [pz, pn, sz, sc]); refine re ?_
  refine r2 5 9 ?_ ?_
  (refine kf gf122 hst (h3) rfl rfl rfl rfl ?_; clear hst; intro w hst); (try simp only [pz, pn, sz, sc]); refine re ?_
  refine r0 6 ?_; simp only [pz, pn, sz, sc]
  refine r0 7 ?_; simp only [pz, pn, sz, sc]
  refine r0 8 ?_; simp only [pz, pn, sz, sc]
  refine r1 9 ?_; (refine ka 8 hst tz44 rfl rfl ?_; clear hst; intro b8 w hb8 hst); (try simp only [pz, pn, sz, sc]); refine re ?_
  refine r1 10 ?_; (refine kt hst ta44 rfl rfl ?_; clear hst; intro w hst); (try simp only [pz, pn, sz, sc]); refine re ?_
  refine r0 11 ?_; simp only [pz, pn, sz, sc]
  refine rd_ ?_
  rotate_left 1
  (refine ka 8 hst tz44 rfl rfl ?_; clear hst; intro b8 w hb8 hst); (try simp only [pz, pn, sz, sc]); refine re ?_
  refine r1 5 ?_; (refine kf gf122 hst (h3) rfl rfl rfl rfl ?_; clear hst; intro w hst); (try simp only [pz, pn, sz, sc]); refine re ?_
  refine r0 6 ?_; simp only [pz, pn, sz, sc]
  refine r0 7 ?_; simp only [pz, pn, sz, sc]
  refine r0 8 ?_; simp only [pz, pn, sz, sc]
  refine r1 10 ?_; (refine kt hst ta44 rfl rfl ?_; clear hst; intro w hst); (try simp only [pz, pn, sz, sc]); refine re ?_
  refine r0 11 ?_; simp only [pz, pn, sz, sc]
  refine rd_ ?_
  rotate_right 1
  rotate_left 2
  (refine ka 8 hst tz44 rfl rfl ?_; clear hst; intro b8 w hb8 hst); (try simp only [pz, pn, sz, sc]); refine re ?_
  refine r1 4 ?_; (refine kf gf236 hst (h2) rfl rfl rfl rfl ?_; clear hst; intro w hst); (try simp only [pz, pn, sz, sc]); refine re ?_
  refine r1 5 ?_; (refine kf gf122 hst (h3) rfl rfl rfl rfl ?_; clear hst; intro w hst); (try simp only [pz, pn, sz, sc]); refine re ?_
  refine r0 6 ?_; simp only [pz, pn, sz, sc]
  refine r0 7 ?_; simp only [pz, pn, sz, sc]
  refine r0 8 ?_; simp only [pz, pn, sz, sc]
  refine r1 10 ?_; (refine kt hst ta44 rfl rfl ?_; clear hst; intro w hst); (try simp only [pz, pn, sz, sc]); refine re ?_
  refine r0 11 ?_; simp only [pz, pn, sz, sc]
  refine rd_ ?_
  rotate_right 2
  all_goals
    go_wp2_with fail
    refine wp_region_T 12  hst (by kernel_rfl) ?_; clear hst; intro w hst; (try simp only [List.length_cons, List.length_nil, Nat.reduceAdd, Array.replicate_succ, Array.replicate_zero, List.push_toArray, List.nil_append, List.cons_append])
    refine r0 1 ?_; simp only [pz, pn, sz, sc, w1, w2]
    refine r0 2 ?_; simp only [pz, pn, sz, sc, w1, w2]
    refine r0 4 ?_; simp only [pz, pn, sz, sc, w1, w2]
    refine r0 5 ?_; simp only [pz, pn, sz, sc, w1, w2]
    refine r0 6 ?_; simp only [pz, pn, sz, sc, w1, w2]
    refine rl 0 rfl ?_ (by first | exact ylA ta44 | exact ylM ta44); simp only [pz, pn, sz, sc, w1, w2]
    refine r1 3 ?_; (refine kf gf127 hst (h4) rfl rfl rfl rfl ?_; clear hst; intro w hst); (try simp only [pz, pn, sz, sc, w1, w2]); refine re ?_
    refine r1 7 ?_; (refine kf gf236 hst (h5) rfl rfl rfl rfl ?_; clear hst; intro w hst); (try simp only [pz, pn, sz, sc, w1, w2]); refine re ?_
    refine r1 8 ?_; (refine kf gf122 hst (h6) rfl rfl rfl rfl ?_; clear hst; intro w hst); (try simp only [pz, pn, sz, sc, w1, w2]); refine re ?_
    refine r0 9 ?_; simp only [pz, pn, sz, sc, w1, w2]
    refine r0 10 ?_; simp only [pz, pn, sz, sc, w1, w2]
    refine r0 11 ?_; simp only [pz, pn, sz, sc, w1, w2]
    refine r1 12 ?_; (refine kt hst ta44 rfl rfl ?_; clear hst; intro w hst); (try simp only [pz, pn, sz, sc, w1, w2]); refine re ?_
    refine rd_ ?_
    go_wp2_with fail
    refine wp_region_T 11  hst (by kernel_rfl) ?_; clear hst; intro w hst; (try simp only [List.length_cons, List.length_nil, Nat.reduceAdd, Array.replicate_succ, Array.replicate_zero, List.push_toArray, List.nil_append, List.cons_append])
    refine r0 0 ?_; simp only [pz, pn, sz, sc]
    refine r0 2 ?_; simp only [pz, pn, sz, sc]
    refine r0 4 ?_; simp only [pz, pn, sz, sc]
    refine rl 1 rfl ?_ (by first | exact ylA ta44 | exact ylM ta44); simp only [pz, pn, sz, sc]
    refine r2 3 10 ?_ ?_
    (refine kf gf127 hst (h7) rfl rfl rfl rfl ?_; clear hst; intro w hst); (try simp only [pz, pn, sz, sc]); refine re ?_
    refine r2 5 10 ?_ ?_
    (refine kf gf236 hst (h8) rfl rfl rfl rfl ?_; clear hst; intro w hst); (try simp only [pz, pn, sz, sc]); refine re ?_
    refine r2 6 10 ?_ ?_
    (refine kf gf104 hst (h9) rfl rfl rfl rfl ?_; clear hst; intro w hst); (try simp only [pz, pn, sz, sc]); refine re ?_
    refine r0 7 ?_; simp only [pz, pn, sz, sc]
    refine r0 8 ?_; simp only [pz, pn, sz, sc]
    refine r0 9 ?_; simp only [pz, pn, sz, sc]
    refine r1 10 ?_; (refine ka 10 hst tz44 rfl rfl ?_; clear hst; intro b10 w hb10 hst); (try simp only [pz, pn, sz, sc]); refine re ?_
    refine r1 11 ?_; (refine kt hst ta44 rfl rfl ?_; clear hst; intro w hst); (try simp only [pz, pn, sz, sc]); refine re ?_
    refine r0 12 ?_; simp only [pz, pn, sz, sc]
    refine rd_ ?_
    rotate_left 1
    (refine ka 10 hst tz44 rfl rfl ?_; clear hst; intro b10 w hb10 hst); (try simp only [pz, pn, sz, sc]); refine re ?_
    refine r1 6 ?_; (refine kf gf104 hst (h9) rfl rfl rfl rfl ?_; clear hst; intro w hst); (try simp only [pz, pn, sz, sc]); refine re ?_
    refine r0 7 ?_; simp only [pz, pn, sz, sc]
    refine r0 8 ?_; simp only [pz, pn, sz, sc]
    refine r0 9 ?_; simp only [pz, pn, sz, sc]
    refine r1 11 ?_; (refine kt hst ta44 rfl rfl ?_; clear hst; intro w hst); (try simp only [pz, pn, sz, sc]); refine re ?_
    refine r0 12 ?_; simp only [pz, pn, sz, sc]
    refine rd_ ?_
    rotate_right 1
    rotate_left 2
    (refine ka 10 hst tz44 rfl rfl ?_; clear hst; intro b10 w hb10 hst); (try simp only [pz, pn, sz, sc]); refine re ?_
    refine r1 5 ?_; (refine kf gf236 hst (h8) rfl rfl rfl rfl ?_; clear hst; intro w hst); (try simp only [pz, pn, sz, sc]); refine re ?_
    refine r1 6 ?_; (refine kf gf104 hst (h9) rfl rfl rfl rfl ?_; clear hst; intro w hst); (try simp only [pz, pn, sz, sc]); refine re ?_
    refine r0 7 ?_; simp only [pz, pn, sz, sc]
    refine r0 8 ?_; simp only [pz, pn, sz, sc]
    refine r0 9 ?_; simp only [pz, pn, sz, sc]
    refine r1 11 ?_; (refine kt hst ta44 rfl rfl ?_; clear hst; intro w hst); (try simp only [pz, pn, sz, sc]); refine re ?_
    refine r0 12 ?_; simp only [pz, pn, sz, sc]
    refine rd_ ?_
    rotate_right 2
    rotate_left 3
    (refine ka 10 hst tz44 rfl rfl ?_; clear hst; intro b10 w hb10 hst); (try simp only [pz, pn, sz, sc]); refine re ?_
    refine r1 3 ?_; (refine kf gf127 hst (h7) rfl rfl rfl rfl ?_; clear hst; intro w hst); (try simp only [pz, pn, sz, sc]); refine re ?_
    refine r1 5 ?_; (refine kf gf236 hst (h8) rfl rfl rfl rfl ?_; clear hst; intro w hst); (try simp only [pz, pn, sz, sc]); refine re ?_
    refine r1 6 ?_; (refine kf gf104 hst (h9) rfl rfl rfl rfl ?_; clear hst; intro w hst); (try simp only [pz, pn, sz, sc]); refine re ?_
    refine r0 7 ?_; simp only [pz, pn, sz, sc]
    refine r0 8 ?_; simp only [pz, pn, sz, sc]
    refine r0 9 ?_; simp only [pz, pn, sz, sc]
    refine r1 11 ?_; (refine kt hst ta44 rfl rfl ?_; clear hst; intro w hst); (try simp only [pz, pn, sz, sc]); refine re ?_
    refine r0 12 ?_; simp only [pz, pn, sz, sc]
    refine rd_ ?_
    rotate_right 3
  all_goals
    go_wp2_with ((first | (refine kl hst ta44 rfl ?_) | (refine kB (tb278_01 _ _) rfl ?_) | (refine kt hst ta278 rfl rfl ?_; clear hst; intro w hst)); try simp only [pz, pn, sz, sc])
    refine bp_c rfl rfl (la hst ta278) ⟨?_, hst.keeps⟩
    rfl

end Go.Proofs.YtefpoconpeggpaaGreatDoor.Rd

namespace Go.Proofs.YtefpoconpeggpaaGreatDoor.Rd
open Go Go.RowKit
set_option linter.unusedVariables false
set_option linter.unusedSimpArgs false
set_option maxRecDepth 100000

theorem srtroot_Root_1 (j d : Int) (p l : Int) (c1 : Nat) (cs : Array Value) (hcs : cs.size = 16) (E1 : TypeId) (w0 : World) (h1 : w0.heap[c1]? = some (.cells cs E1)) :
    GivesT Tryz.prog 227 #[.int .i64 j, .int .i64 d, .agg (farC p l), .pointer (some ⟨c1, 0, none⟩)] (.bool true) [(c1, .cells cs E1)] [(c1, .cells (farC p l) E1)] w0 := by
  have hst := (St.start [c1] w0).add h1 (by simp)
  have k1 := farC_size p l
  have k2 := farC_one p l
  generalize farC p l = f at *
  clear h1
  go_enter Tryz.func227, Tryz.ntmps227
  go_wp2_with ((first | (refine kb 6 hst rfl rfl ?_; clear hst; intro b6 w hb6 hst) | (refine kl hst ta278 rfl ?_) | (refine kt hst ta278 rfl rfl ?_; clear hst; intro w hst)); try simp only [pz, pn, sz, sc])
  exact bp_t rfl rfl (by rfl) (GivesT.of hst rfl (by simp))

theorem sq_next (n p a d e f : Int) (he : e = a * 2) (hf : f = a * a) : n - (p + d * a) * (p + d * a) = n - p * p - p * e * d - f * (d * d) := by
  subst he; subst hf; grind
theorem pow_cast (c : Nat) : ((2 ^ c : Nat) : Int) = 2 ^ c := by simp

set_option maxHeartbeats 8000000 in
theorem srtroot_run (n c1 : Nat) (cs : Array Value) (hcs : cs.size = 16) (h1 : (2 : Int) ^ 254 ≤ (n : Int)) (h2 : (n : Int) < 2 ^ 256) (hn : n < M) (E1 : TypeId) (w0 : World) (hc1 : w0.heap[c1]? = some (.cells cs E1)) :
    GivesT Tryz.prog 226 #[W n, .func (.func 227) #[] #[.pointer (some ⟨c1, 0, none⟩)]] (.tuple #[]) [(c1, .cells cs E1)] [(c1, .cells (farC (sp n 64) ((n : Int) - sp n 64 * sp n 64)) E1)] w0 := by
  have hst := (St.start [c1] w0).add hc1 (by simp)
  have hbeg := srtroot_begin n hn
  rw [show ((2 ^ 256 : Nat) : Int) = ((2 ^ 128 : Nat) : Int) * ((2 ^ 128 : Nat) : Int) by decide, show ((2 ^ 128 : Nat) : Int) = sp n 0 by simp [sp]] at hbeg
  have hinv := Lib.hid (sp_inv n h1 h2)
  have h1' := Lib.hid h1
  have h2' := Lib.hid h2
  have z0 := farC_size (sp n 0) ((n : Int) - sp n 0 * sp n 0)
  have z1 := farC_one (sp n 0) ((n : Int) - sp n 0 * sp n 0)
  obtain ⟨f0, hf0⟩ : ∃ f0, f0 = farC (sp n 0) ((n : Int) - sp n 0 * sp n 0) := ⟨_, rfl⟩
  rw [← hf0] at hbeg z0 z1
  have hf0' := Lib.hid hf0
  clear hc1 h1 h2 hf0
  go_enter Tryz.func226, Tryz.ntmps226
  go_wp2_with ((first | (refine kb 2 hst rfl rfl ?_; clear hst; intro b2 w hb2 hst)); try simp only [pz, pn, sz, sc])
  go_step3
  go_wp2_with ((first | (refine kf gf229 hst (hbeg) rfl rfl rfl rfl ?_; clear hst; intro w hst) | (refine kl hst ta44 rfl ?_) | (refine ka 4 hst tz278 rfl rfl ?_; clear hst; intro b4 w hb4 hst) | (refine kt hst ta278 rfl rfl ?_; clear hst; intro w hst)); try simp only [pz, pn, sz, sc])
  go_step3
  go_wp2_with fail
  rw [hf0'.out] at hst
  clear z0 z1 hf0' hbeg
  go_loopw [5, 12] (fun u i wr => ∃ (k : Nat) (ck : Array Value), k ≤ 64 ∧ i = .int .i64 k ∧ ck.size = 16 ∧ (k = 64 → ck = farC (sp n 64) ((n : Int) - sp n 64 * sp n 64)) ∧
    St w0 [c1] [(b4, .cells (farC (sp n k) ((n : Int) - sp n k * sp n k)) 278), (c1, .cells ck E1)] wr) (fun _ i _ => 64 - (intOf i).toNat)
  case atStart => exact ⟨0, cs, by omega, rfl, hcs, fun h => absurd h (by omega), hst.sub (by repeat (first | exact List.Sublist.refl _ | exact List.nil_sublist _ | refine List.Sublist.cons_cons _ ?_ | refine List.Sublist.cons _ ?_))⟩
  case round =>
    clear hst hcs
    obtain ⟨k, ck, hk, rfl, hck, hck64, hst⟩ := hrel
    by_cases hlt : k < 64
    · have hi0 : (0 : Int) ≤ (k : Int) := by omega
      have hi8 : (k : Int) < 64 := by omega
      have hI := hinv.out k hk
      have hy := sp_y n k hlt (sp n k) hI
      have hsm := sp_small n h1'.out h2'.out (sp n k) hI.2.2.1 hI.2.2.2.1
      obtain ⟨pm, hpn⟩ : ∃ pm : Nat, sp n k = (pm : Int) := Int.eq_ofNat_of_zero_le (Int.le_trans (show (0 : Int) ≤ 2 ^ 127 by decide) hI.2.2.1)
      have hs1 : 28 ≤ sp n k / 2 ^ 122 := by
        apply (Int.le_ediv_iff_mul_le (by decide)).2
        exact Int.le_trans (by decide) hI.2.2.1
      have hs2 : sp n k / 2 ^ 122 ≤ 64 := by
        apply Int.le_of_lt_add_one
        apply (Int.ediv_lt_iff_lt_mul (by decide)).2
        exact Int.lt_of_le_of_lt hI.2.2.2.1 (by decide)
      have hpM : pm < M := small_M (by
        have : (pm : Int) ≤ 2 ^ 128 := hpn ▸ hI.2.2.2.1
        have h4 : ((2 ^ 128 : Nat) : Int) = 2 ^ 128 := by simp
        rw [← h4] at this
        exact Nat.lt_of_le_of_lt (Int.ofNat_le.1 this) (by decide))
      have hshr := wide_Shr (toW (sp n k)) 122 (toW_lt _)
      rw [show clampN 122 = 122 from rfl] at hshr
      have hq : toW (sp n k) / 2 ^ 122 = toW (sp n k / 2 ^ 122) := by
        rw [hpn, toW_nat pm hpM, show ((pm : Int) / 2 ^ 122) = ((pm / 2 ^ 122 : Nat) : Int) by rw [Int.natCast_ediv]; simp, toW_nat _ (Nat.lt_of_le_of_lt (Nat.div_le_self _ _) hpM)]
      rw [hq] at hshr
      have hsmall1 := srtroot_small (sp n k / 2 ^ 122) (by omega) (by omega)
      have hHM : (2 : Int) ^ 256 ≤ (HM : Int) := by
        have : ∀ m, 511 = m → 2 ^ 256 ≤ HM := fun m e => by rw [HM_two m e]; exact Nat.pow_le_pow_right (by omega) (by omega)
        have := Int.ofNat_le.2 (this 511 rfl)
        rwa [show ((2 ^ 256 : Nat) : Int) = 2 ^ 256 by simp] at this
      have hsar := wide_Sar (toW ((n : Int) - sp n k * sp n k)) (248 - 2 * (k : Int)) (toW_lt _)
      rw [show (248 - 2 * (k : Int)) = ((248 - 2 * k : Nat) : Int) by omega, clampN_nat _ (by omega), sar_toW _ _ (by omega) (by omega), pow_cast] at hsar
      rw [show ((248 - 2 * k : Nat) : Int) = (248 - 2 * (k : Int)) by omega] at hsar
      have hsmall2 := srtroot_small (((n : Int) - sp n k * sp n k) / 2 ^ (248 - 2 * k)) hy.1 hy.2
      have hdig := table_RootDigit k (sp n k / 2 ^ 122) (((n : Int) - sp n k * sp n k) / 2 ^ (248 - 2 * k)) hs1 hs2
      obtain ⟨_, hd1, hd2⟩ := sp_step n h1'.out h2'.out k hlt (sp n k) hI _ rfl
      have hnext := srtroot_next (sp n k) ((n : Int) - sp n k * sp n k) (rdig k (sp n k / 2 ^ 122) (((n : Int) - sp n k * sp n k) / 2 ^ (248 - 2 * k))) (sp n (k + 1)) ((n : Int) - sp n (k + 1) * sp n (k + 1)) (126 - 2 * k) (by omega) hd1 hd2
        (by rw [pow_cast, Int.mul_comm]; rfl)
        (by
          have e : sp n (k + 1) = sp n k + rdig k (sp n k / 2 ^ 122) (((n : Int) - sp n k * sp n k) / 2 ^ (248 - 2 * k)) * 2 ^ (126 - 2 * k) := rfl
          rw [e]
          exact sq_next _ _ _ _ _ _ (by rw [pow_cast, Int.pow_succ]) (by rw [pow_cast, Nat.mul_comm 2 (126 - 2 * k), Int.pow_mul, Int.pow_succ, Int.pow_succ, Int.pow_zero, Int.one_mul]))
      rw [show ((126 - 2 * k : Nat) : Int) = 2 * (63 - (k : Int)) by omega] at hnext
      have hcb := fun (w : World) (q : w.heap[c1]? = some (.cells ck E1)) => srtroot_Root_1 k (rdig k (sp n k / 2 ^ 122) (((n : Int) - sp n k * sp n k) / 2 ^ (248 - 2 * k))) (sp n (k + 1)) ((n : Int) - sp n (k + 1) * sp n (k + 1)) c1 ck hck E1 w q
      have w1 : IntKind.i64.wrap (2 * (k : Int)) = 2 * (k : Int) := i64w _ (by omega) (by omega)
      have w2 : IntKind.i64.wrap (248 - 2 * (k : Int)) = 248 - 2 * (k : Int) := i64w _ (by omega) (by omega)
      clear hI hy hsm hpn hs1 hs2 hpM hq hHM hd1 hd2 hck64
      generalize rdig k (sp n k / 2 ^ 122) (((n : Int) - sp n k * sp n k) / 2 ^ (248 - 2 * k)) = d at *
      generalize toW (((n : Int) - sp n k * sp n k) / 2 ^ (248 - 2 * k)) = x1 at *
      generalize ((n : Int) - sp n k * sp n k) / 2 ^ (248 - 2 * k) = y at *
      generalize toW (sp n k / 2 ^ 122) = x2 at *
      generalize sp n k / 2 ^ 122 = s at *
      have z2 := farC_size (sp n k) ((n : Int) - sp n k * sp n k)
      have z3 := farC_one (sp n k) ((n : Int) - sp n k * sp n k)
      have z4 := farC_size (sp n (k + 1)) ((n : Int) - sp n (k + 1) * sp n (k + 1))
      have z5 := farC_one (sp n (k + 1)) ((n : Int) - sp n (k + 1) * sp n (k + 1))
      go_wp2_with ((first | (refine kf gf87 hst (hshr) rfl rfl rfl rfl ?_; clear hst; intro w hst) | (refine klm hst ta44 rfl ?_) | (refine ka 6 hst tz44 rfl rfl ?_; clear hst; intro b6 w hb6 hst) | (refine kt hst ta44 rfl rfl ?_; clear hst; intro w hst)); try simp only [pz, pn, sz, sc])
      refine wp_region_T 16  hst (by kernel_rfl) ?_; clear hst; intro w hst; (try simp only [List.length_cons, List.length_nil, Nat.reduceAdd, Array.replicate_succ, Array.replicate_zero, List.push_toArray, List.nil_append, List.cons_append])
      refine r0 0 ?_; simp only [pz, pn, sz, sc, w1, w2]
      refine r0 3 ?_; simp only [pz, pn, sz, sc, w1, w2]
      refine r0 5 ?_; simp only [pz, pn, sz, sc, w1, w2]
      refine r0 6 ?_; simp only [pz, pn, sz, sc, w1, w2]
      refine r0 7 ?_; simp only [pz, pn, sz, sc, w1, w2]
      refine rl 1 rfl ?_ (by first | exact ylA ta44 | exact ylM ta44); simp only [pz, pn, sz, sc, w1, w2]
      refine rl 4 rfl ?_ (by first | exact ylA ta44 | exact ylM ta44); simp only [pz, pn, sz, sc, w1, w2]
      refine r1 2 ?_; (refine kf gf231 hst (hsmall1) rfl rfl rfl rfl ?_; clear hst; intro w hst); (try simp only [pz, pn, sz, sc, w1, w2]); refine re ?_
      refine r1 8 ?_; (refine kf gf232 hst (hsar) rfl rfl rfl rfl ?_; clear hst; intro w hst); (try simp only [pz, pn, sz, sc, w1, w2]); refine re ?_
      refine r1 9 ?_; (refine kf gf231 hst (hsmall2) rfl rfl rfl rfl ?_; clear hst; intro w hst); (try simp only [pz, pn, sz, sc, w1, w2]); refine re ?_
      refine r1 10 ?_; (refine kf gf230 hst (hdig) rfl rfl rfl rfl ?_; clear hst; intro w hst); (try simp only [pz, pn, sz, sc, w1, w2]); refine re ?_
      refine r0 11 ?_; simp only [pz, pn, sz, sc, w1, w2]
      refine r0 12 ?_; simp only [pz, pn, sz, sc, w1, w2]
      refine r0 13 ?_; simp only [pz, pn, sz, sc, w1, w2]
      refine r0 14 ?_; simp only [pz, pn, sz, sc, w1, w2]
      refine r0 15 ?_; simp only [pz, pn, sz, sc, w1, w2]
      refine rd_ ?_
      go_wp2_with ((first | (refine kf gf233 hst (hnext) rfl rfl rfl rfl ?_; clear hst; intro w hst) | (refine kT gf227 hst (fun w hst => hcb w (hst.own _ _ (by simp))) rfl rfl rfl rfl ?_; clear hst; intro w hst) | (refine kt hst ta278 rfl rfl ?_; clear hst; intro w hst) | (refine kl hst ta278 rfl ?_)); try simp only [pz, pn, sz, sc])
      exact ⟨⟨k + 1, _, by omega, by go_num, z4, fun h => by rw [h], hst.sub (by repeat (first | exact List.Sublist.refl _ | exact List.nil_sublist _ | refine List.Sublist.cons_cons _ ?_ | refine List.Sublist.cons _ ?_))⟩, by simp [intOf]; omega⟩
    · have : k = 64 := by omega
      subst this
      have e := hck64 rfl
      subst e
      clear hck64 hck
      go_wp2_with fail
      rw [Exit.noGoto_normal]
      exact bp_0 rfl rfl (GivesT.of hst rfl (by simp))

end Go.Proofs.YtefpoconpeggpaaGreatDoor.Rd

namespace Go.Proofs.YtefpoconpeggpaaGreatDoor.Rd
open Go Go.RowKit
set_option linter.unusedVariables false
set_option linter.unusedSimpArgs false
set_option maxRecDepth 100000

/-- By how much a radicand is shifted up. -/
def nby (n : Nat) : Nat := (256 - bl n) / 2 * 2
theorem norm_up (n : Nat) (h0 : n ≠ 0) (h : n < 2 ^ 256) : 2 ^ 254 ≤ n * 2 ^ nby n ∧ n * 2 ^ nby n < 2 ^ 256 := by
  obtain ⟨h1, h2⟩ := bl_spec n
  have h2 := h2 h0
  have h3 := bl_pos h0
  have h4 : bl n ≤ 256 := bl_le.2 h
  have h5 : bl n + nby n = 256 ∨ bl n + nby n = 255 := by unfold nby; omega
  generalize nby n = b at *
  generalize bl n = k at *
  have hb : 0 < 2 ^ b := Nat.pow_pos (by omega)
  constructor
  · have := Nat.mul_le_mul_right (2 ^ b) h2
    rw [← Nat.pow_add] at this
    exact Nat.le_trans (Nat.pow_le_pow_right (by omega) (by omega)) this
  · have := Nat.mul_lt_mul_of_pos_right h1 hb
    rw [← Nat.pow_add] at this
    exact Nat.lt_of_lt_of_le this (Nat.pow_le_pow_right (by omega) (by omega))

set_option maxHeartbeats 1000000 in
theorem srtroot_Norm (n : Nat) (h0 : n ≠ 0) (h : n < 2 ^ 256) (hn : n < M) : Gives Tryz.prog 225 #[W n] (.tuple #[W (n * 2 ^ nby n), .int .i64 (nby n : Nat), .bool true]) := by
  intro w0
  have hst := St.start [] w0
  have hlen := wide_Len n hn
  have hbl : bl n ≤ 256 := bl_le.2 h
  have hb0 := bl_pos h0
  have hshl := wide_Shl n (nby n : Nat) hn
  rw [clampN_nat _ (by unfold nby; omega), Nat.mod_eq_of_lt (Nat.lt_trans (norm_up n h0 h).2 (small_M (by decide)))] at hshl
  generalize n * 2 ^ nby n = u at *
  have hnb : nby n = (256 - bl n) / 2 * 2 := rfl
  generalize nby n = b at *
  generalize bl n = k at *
  obtain ⟨x, hx⟩ : ∃ x, x = (256 - k) / 2 := ⟨_, rfl⟩
  have Q0 : ((k : Int) == 0) = false := by simp; omega
  have Q1 : ¬ ((256 : Int) < (k : Int)) := by omega
  have Q2 : (256 - (k : Int)) / 2 = (x : Int) := by omega
  have Q3 : (256 - (k : Int)).tdiv 2 = (x : Int) := by rw [Int.tdiv_eq_ediv_of_nonneg (by omega)]; exact Q2
  have Q4 : (x : Int) * 2 = (b : Int) := by omega
  have hx128 : x ≤ 128 := by omega
  clear h h0 hb0 hnb hx
  go_enter Tryz.func225, Tryz.ntmps225
  go_wp2_with ((first | (refine kf gf47 hst (hlen) rfl rfl rfl rfl ?_; clear hst; intro w hst) | (refine kf gf48 hst (hshl) rfl rfl rfl rfl ?_; clear hst; intro w hst) | (refine kb 1 hst rfl rfl ?_; clear hst; intro b1 w hb1 hst) | (refine ka 2 hst tz44 rfl rfl ?_; clear hst; intro b2 w hb2 hst) | (refine kl hst ta44 rfl ?_) | (refine kt hst ta44 rfl rfl ?_; clear hst; intro w hst)); try simp only [pz, pn, sz, sc])
  refine bp_ctt rfl rfl (la hst ta44) (by rfl) (by rfl) ⟨?_, hst.keeps⟩
  rfl
theorem srtroot_Norm_zero : Gives Tryz.prog 225 #[W 0] (.tuple #[W 0, .int .i64 0, .bool false]) := by
  intro w0
  have hst := St.start [] w0
  have hlen := wide_Len 0 M_pos
  rw [bl_zero] at hlen
  go_enter Tryz.func225, Tryz.ntmps225
  go_wp2_with ((first | (refine kf gf47 hst (hlen) rfl rfl rfl rfl ?_; clear hst; intro w hst) | (refine kb 1 hst rfl rfl ?_; clear hst; intro b1 w hb1 hst) | (refine ka 2 hst tz44 rfl rfl ?_; clear hst; intro b2 w hb2 hst) | (refine kl hst ta44 rfl ?_) | (refine kt hst ta44 rfl rfl ?_; clear hst; intro w hst)); try simp only [pz, pn, sz, sc])
  refine bp_ctt rfl rfl (la hst ta44) (by rfl) (by rfl) ⟨?_, hst.keeps⟩
  rw [W_zero]; rfl
theorem srtroot_Norm_big (n : Nat) (h : ¬ n < 2 ^ 256) (hn : n < M) : Gives Tryz.prog 225 #[W n] (.tuple #[W 0, .int .i64 0, .bool false]) := by
  intro w0
  have hst := St.start [] w0
  have hlen := wide_Len n hn
  have hbl : 256 < bl n := by
    rcases Nat.lt_or_ge 256 (bl n) with h' | h'
    · exact h'
    · exact absurd (bl_le.1 h') h
  generalize bl n = k at *
  have Q0 : ((k : Int) == 0) = false := by simp; omega
  have Q1 : ((256 : Int) < (k : Int)) := by omega
  clear h
  go_enter Tryz.func225, Tryz.ntmps225
  go_wp2_with ((first | (refine kf gf47 hst (hlen) rfl rfl rfl rfl ?_; clear hst; intro w hst) | (refine kb 1 hst rfl rfl ?_; clear hst; intro b1 w hb1 hst) | (refine ka 2 hst tz44 rfl rfl ?_; clear hst; intro b2 w hb2 hst) | (refine kl hst ta44 rfl ?_) | (refine kt hst ta44 rfl rfl ?_; clear hst; intro w hst)); try simp only [pz, pn, sz, sc])
  refine bp_ctt rfl rfl (la hst ta44) (by rfl) (by rfl) ⟨?_, hst.keeps⟩
  rw [W_zero]; rfl

theorem IsRoot.down {n x s : Nat} (h : IsRoot (n * 4 ^ x) s) : IsRoot n (s / 2 ^ x) := by
  have e : (4 : Nat) ^ x = 2 ^ x * 2 ^ x := by rw [← Nat.mul_pow]
  have hp : 0 < 2 ^ x := Nat.pow_pos (by omega)
  obtain ⟨h1, h2⟩ := h
  rw [e] at h1 h2
  generalize 2 ^ x = p at *
  have h3 := Nat.div_add_mod s p
  have h4 := Nat.mod_lt s hp
  generalize s / p = t at *
  generalize s % p = r at *
  constructor
  · have g1 : (p * t) * (p * t) ≤ s * s := Nat.mul_le_mul (by omega) (by omega)
    have g2 : (t * t) * (p * p) ≤ n * (p * p) := by
      have : (t * t) * (p * p) = (p * t) * (p * t) := by grind
      omega
    exact Nat.le_of_mul_le_mul_right g2 (Nat.mul_pos hp hp)
  · have g1 : (s + 1) * (s + 1) ≤ (p * (t + 1)) * (p * (t + 1)) := by
      have : s + 1 ≤ p * (t + 1) := by rw [Nat.mul_add, Nat.mul_one]; omega
      exact Nat.mul_le_mul this this
    have g2 : n * (p * p) < ((t + 1) * (t + 1)) * (p * p) := by
      have : ((t + 1) * (t + 1)) * (p * p) = (p * (t + 1)) * (p * (t + 1)) := by grind
      omega
    exact Nat.lt_of_mul_lt_mul_right g2
theorem isqrt_of {n s : Nat} (hn : n < 2 ^ 256) (h : IsRoot n s) : s = isqrt n := h.uniq (isqrt_spec (by rw [four_128]; exact hn)).1
theorem isqrt_up {n s : Nat} (hn : n < 2 ^ 256) (h : IsRoot (n * 2 ^ nby n) s) : s / 2 ^ (nby n / 2) = isqrt n := by
  apply isqrt_of hn
  apply IsRoot.down
  have e : 2 ^ nby n = 4 ^ (nby n / 2) := by
    rw [← four_pow]; congr 1; unfold nby; omega
  rw [← e]; exact h

/-- What comes of the last steps: the root, and the remainder. -/
theorem sqrt_le {n : Nat} (hn : n < 2 ^ 256) : isqrt n * isqrt n ≤ n ∧ isqrt n * isqrt n < M ∧ isqrt n < M := by
  have h := isqrt_spec (n := n) (by rw [four_128]; exact hn)
  refine ⟨h.1.1, Nat.lt_of_le_of_lt h.1.1 (Nat.lt_trans hn (small_M (by decide))), Nat.lt_trans h.2 (small_M (by decide))⟩
theorem sub_sq {n : Nat} (hn : n < 2 ^ 256) : (n + M - isqrt n * isqrt n) % M = n - isqrt n * isqrt n := by
  obtain ⟨h1, h2, h3⟩ := sqrt_le hn
  have : n < M := Nat.lt_trans hn (small_M (by decide))
  rw [show n + M - isqrt n * isqrt n = n - isqrt n * isqrt n + M by omega, Nat.add_mod_right, Nat.mod_eq_of_lt (by omega)]

set_option maxHeartbeats 8000000 in
theorem srtroot_Root (n : Nat) (hn : n < M) : Gives Tryz.prog 224 #[W n] (rootV n) := by
  intro w0
  have hst := St.start [] w0
  unfold rootV
  by_cases h0 : n = 0
  · subst h0
    have hnorm := srtroot_Norm_zero
    have hd : decide (0 = 0) = true := rfl
    have e0 : isqrt 0 = 0 := (isqrt_of (by decide) ⟨by decide, by decide⟩).symm
    rw [if_pos (show 0 < 2 ^ 256 by decide), e0]
    go_enter Tryz.func224, Tryz.ntmps224
    go_wp2_with ((first | (refine kf gf225 hst (hnorm) rfl rfl rfl rfl ?_; clear hst; intro w hst) | (refine kb 1 hst rfl rfl ?_; clear hst; intro b1 w hb1 hst) | (refine ka 2 hst tz44 rfl rfl ?_; clear hst; intro b2 w hb2 hst) | (refine ka 3 hst tz44 rfl rfl ?_; clear hst; intro b3 w hb3 hst) | (refine kl hst ta44 rfl ?_) | (refine ka 5 hst tz44 rfl rfl ?_; clear hst; intro b5 w hb5 hst) | (refine kt hst ta44 rfl rfl ?_; clear hst; intro w hst) | (refine ke tr44 tc22 rfl ?_)); try simp only [pz, pn, sz, sc])
    refine wp_region_TV 5 [(b1, .cells (wc 8 0) 44)] hst (by kernel_rfl) ?_; clear hst; intro w hst; (try simp only [List.length_cons, List.length_nil, Nat.reduceAdd, Array.replicate_succ, Array.replicate_zero, List.push_toArray, List.nil_append, List.cons_append])
    refine rl 0 rfl ?_ (by first | exact ylA ta44 | exact ylM ta44); simp only [pz, pn, sz, sc]
    refine rl 1 rfl ?_ (by first | exact ylA ta44 | exact ylM ta44); simp only [pz, pn, sz, sc]
    refine r1 2 ?_; (refine kt hst ta44 rfl rfl ?_; clear hst; intro w hst); (try simp only [pz, pn, sz, sc]); refine re ?_
    refine r1 3 ?_; (refine kt hst ta44 rfl rfl ?_; clear hst; intro w hst); (try simp only [pz, pn, sz, sc]); refine re ?_
    refine r0 4 ?_; simp only [pz, pn, sz, sc]
    refine rd_ ?_
    go_wp2_with fail
    refine bp_cct rfl rfl (la hst ta44) (la hst ta44) (by rfl) ⟨?_, hst.keeps⟩
    rfl
  · have hd : decide (n = 0) = false := by simpa using h0
    by_cases h : n < 2 ^ 256
    · rw [if_pos h]
      have hnorm := srtroot_Norm n h0 h hn
      obtain ⟨u1, u2⟩ := norm_up n h0 h
      have hu1 : (2 : Int) ^ 254 ≤ ((n * 2 ^ nby n : Nat) : Int) := by have := Int.ofNat_le.2 u1; rwa [show ((2 ^ 254 : Nat) : Int) = 2 ^ 254 by simp] at this
      have hu2 : ((n * 2 ^ nby n : Nat) : Int) < 2 ^ 256 := by have := Int.ofNat_lt.2 u2; rwa [show ((2 ^ 256 : Nat) : Int) = 2 ^ 256 by simp] at this
      have huM : n * 2 ^ nby n < M := Nat.lt_trans u2 (small_M (by decide))
      have hrun := fun (b8 : Nat) (w : World) (q : w.heap[b8]? = some (.cells (wc 16 0) 278)) => srtroot_run (n * 2 ^ nby n) b8 (wc 16 0) (wc_size _ _) hu1 hu2 huM _ w q
      obtain ⟨l1, l2, l3, l4⟩ := sp_last _ hu1 hu2 _ rfl
      have hsm := sp_small _ hu1 hu2 _ l3 l4
      have hHM : (2 : Int) ^ 256 ≤ (HM : Int) := by
        have : ∀ m, 511 = m → 2 ^ 256 ≤ HM := fun m e => by rw [HM_two m e]; exact Nat.pow_le_pow_right (by omega) (by omega)
        have := Int.ofNat_le.2 (this 511 rfl)
        rwa [show ((2 ^ 256 : Nat) : Int) = 2 ^ 256 by simp] at this
      have hmin := wide_Minus (toW (((n * 2 ^ nby n : Nat) : Int) - sp (n * 2 ^ nby n : Nat) 64 * sp (n * 2 ^ nby n : Nat) 64)) (toW_lt _)
      rw [minus_toW _ (by omega) (by omega)] at hmin
      obtain ⟨pm, hpm⟩ : ∃ pm : Nat, sp (n * 2 ^ nby n : Nat) 64 = (pm : Int) := Int.eq_ofNat_of_zero_le (Int.le_trans (show (0 : Int) ≤ 2 ^ 127 by decide) l3)
      have hpM : pm < M := small_M (by
        have : (pm : Int) ≤ 2 ^ 128 := hpm ▸ l4
        have h4 : ((2 ^ 128 : Nat) : Int) = 2 ^ 128 := by simp
        rw [← h4] at this
        exact Nat.lt_of_le_of_lt (Int.ofNat_le.1 this) (by decide))
      have hp1 : 1 ≤ pm := by
        have : (2 : Int) ^ 127 ≤ (pm : Int) := hpm ▸ l3
        have : (1 : Int) ≤ 2 ^ 127 := by decide
        omega
      rw [hpm] at hrun hmin l1 l2
      obtain ⟨q1, q2, q3⟩ := sqrt_le h
      have hsq := prod_Square (isqrt n) q3
      rw [Nat.mod_eq_of_lt q2] at hsq
      have hsub := wide_Sub n (isqrt n * isqrt n) hn q2
      rw [sub_sq h] at hsub
      have hup := fun s => @isqrt_up n s h
      have hx : (nby n : Int).tdiv 2 = ((nby n / 2 : Nat) : Int) := by rw [Int.tdiv_eq_ediv_of_nonneg (by omega)]; omega
      have hx' : (nby n : Int) / 2 = ((nby n / 2 : Nat) : Int) := by omega
      have hxl : nby n / 2 ≤ 128 := by unfold nby; omega
      unfold farC at hrun
      rw [toW_nat pm hpM] at hrun
      have hob : ∀ b w, w.heap[b]? = some (.cells (wc 1 1) 22 (0, 0)) → GivesAt Tryz.prog 131 #[.slice (some ⟨b, 0, none⟩) 1 1] (W 1) w := fun b w h => by
        have := wide_Of b 0 1 1 1 1 22 (0, 0) (by omega) w h
        rwa [Nat.pow_zero, Nat.div_one, show min 1 8 = 1 from rfl, show 1 % B ^ 1 = 1 from rfl] at this
      have h1' := Lib.hid (wc_1 1 (by decide))
      by_cases hneg : ((n * 2 ^ nby n : Nat) : Int) - (pm : Int) * (pm : Int) < 0
      · obtain ⟨m1, m2⟩ := l2 hneg
        have hs := hup (pm - 1) ⟨by
          have : (((pm - 1) * (pm - 1) : Nat) : Int) ≤ ((n * 2 ^ nby n : Nat) : Int) := by rw [Int.natCast_mul, Int.natCast_sub hp1]; exact m1
          exact Int.ofNat_le.1 this, by
          rw [Nat.sub_add_cancel hp1]
          have : ((n * 2 ^ nby n : Nat) : Int) < ((pm * pm : Nat) : Int) := by rw [Int.natCast_mul]; exact m2
          exact Int.ofNat_lt.1 this⟩
        have hdec := wide_Sub pm 1 hpM (Nat.lt_of_le_of_lt hp1 hpM)
        rw [show (pm + M - 1) % M = pm - 1 by rw [show pm + M - 1 = pm - 1 + M by omega, Nat.add_mod_right, Nat.mod_eq_of_lt (by omega)]] at hdec
        have hshr := wide_Shr (pm - 1) ((nby n / 2 : Nat) : Int) (by omega)
        rw [clampN_nat _ (by omega), hs] at hshr
        rw [show decide (((n * 2 ^ nby n : Nat) : Int) - (pm : Int) * (pm : Int) < 0) = true by simpa using hneg] at hmin
        clear hneg hs hup hu1 hu2 huM u1 u2 l1 l2 l3 l4 hsm hHM hpm hp1 m1 m2 q1 q2 q3 h h0
        generalize toW (((n * 2 ^ nby n : Nat) : Int) - (pm : Int) * (pm : Int)) = lv at *
        generalize n - isqrt n * isqrt n = rv at *
        generalize isqrt n * isqrt n = sv at *
        generalize isqrt n = s at *
        generalize nby n / 2 = x at *
        generalize n * 2 ^ nby n = up at *
        go_enter Tryz.func224, Tryz.ntmps224
        go_wp2_with ((first | (refine kf gf225 hst (hnorm) rfl rfl rfl rfl ?_; clear hst; intro w hst) | (refine kT gf226 hst (fun w hst => hrun b8 w (hst.own _ _ (by simp))) rfl rfl rfl rfl ?_; clear hst; intro w hst) | (refine kf gf228 hst (hmin) rfl rfl rfl rfl ?_; clear hst; intro w hst) | (refine kb 1 hst rfl rfl ?_; clear hst; intro b1 w hb1 hst) | (refine ka 2 hst tz44 rfl rfl ?_; clear hst; intro b2 w hb2 hst) | (refine ka 3 hst tz44 rfl rfl ?_; clear hst; intro b3 w hb3 hst) | (refine kl hst ta44 rfl ?_) | (refine ka 5 hst tz44 rfl rfl ?_; clear hst; intro b5 w hb5 hst) | (refine kt hst ta44 rfl rfl ?_; clear hst; intro w hst) | (refine ke tr44 tc22 rfl ?_) | (refine ka 8 hst tz278 rfl rfl ?_; clear hst; intro b8 w hb8 hst) | (refine klm hst ta44 rfl ?_)); try simp only [pz, pn, sz, sc])
        refine wp_region_T 9  hst (by kernel_rfl) ?_; clear hst; intro w hst; (try simp only [List.length_cons, List.length_nil, Nat.reduceAdd, Array.replicate_succ, Array.replicate_zero, List.push_toArray, List.nil_append, List.cons_append])
        refine r0 0 ?_; simp only [pz, pn, sz, sc]
        refine rl 1 rfl ?_ (by first | exact ylA ta44 | exact ylM ta44); simp only [pz, pn, sz, sc]
        refine r1 2 ?_; (refine wl_slice1 (o := ⟨some 41, _, _, _, _, _⟩) hst ts123 te22 rfl rfl (by (simp only [eval_lit, eval_k, eval_f, eval_g, List.getD_cons_succ, List.getD_cons_zero]) <;> rfl) (by rfl) ?_; clear hst; intro b41 w hb41 hst); (try simp only [pz, pn, sz, sc]); refine re ?_
        refine r1 3 ?_; (refine kg gf131 hst (fun w hst => hob _ w (by rw [← h1'.out]; exact hst.own _ _ (by simp))) rfl rfl rfl rfl ?_; clear hst; intro w hst); (try simp only [pz, pn, sz, sc]); refine re ?_
        refine r1 4 ?_; (refine kf gf122 hst (hdec) rfl rfl rfl rfl ?_; clear hst; intro w hst); (try simp only [pz, pn, sz, sc]); refine re ?_
        refine r0 5 ?_; simp only [pz, pn, sz, sc]
        refine r0 6 ?_; simp only [pz, pn, sz, sc]
        refine r0 7 ?_; simp only [pz, pn, sz, sc]
        refine r0 8 ?_; simp only [pz, pn, sz, sc]
        refine r1 9 ?_; (refine ktm hst ta44 rfl rfl ?_; clear hst; intro w hst); (try simp only [pz, pn, sz, sc]); refine re ?_
        refine rd_ ?_
        go_wp2_with ((first | (refine kf gf87 hst (hshr) rfl rfl rfl rfl ?_; clear hst; intro w hst) | (refine kf gf71 hst (hsq) rfl rfl rfl rfl ?_; clear hst; intro w hst) | (refine kf gf122 hst (hsub) rfl rfl rfl rfl ?_; clear hst; intro w hst) | (refine kl hst ta44 rfl ?_) | (refine kt hst ta44 rfl rfl ?_; clear hst; intro w hst) | (refine klm hst ta44 rfl ?_) | (refine ka 9 hst tz44 rfl rfl ?_; clear hst; intro b9 w hb9 hst) | (refine ka 11 hst tz44 rfl rfl ?_; clear hst; intro b11 w hb11 hst) | (refine ka 13 hst tz44 rfl rfl ?_; clear hst; intro b13 w hb13 hst)); try simp only [pz, pn, sz, sc])
        refine wp_region_TV 5 [(b13, .cells (wc 8 rv) 44), (b9, .cells (wc 8 s) 44)] hst (by kernel_rfl) ?_; clear hst; intro w hst; (try simp only [List.length_cons, List.length_nil, Nat.reduceAdd, Array.replicate_succ, Array.replicate_zero, List.push_toArray, List.nil_append, List.cons_append])
        refine rl 0 rfl ?_ (by first | exact ylA ta44 | exact ylM ta44); simp only [pz, pn, sz, sc]
        refine rl 1 rfl ?_ (by first | exact ylA ta44 | exact ylM ta44); simp only [pz, pn, sz, sc]
        refine r1 2 ?_; (refine kt hst ta44 rfl rfl ?_; clear hst; intro w hst); (try simp only [pz, pn, sz, sc]); refine re ?_
        refine r1 3 ?_; (refine kt hst ta44 rfl rfl ?_; clear hst; intro w hst); (try simp only [pz, pn, sz, sc]); refine re ?_
        refine r0 4 ?_; simp only [pz, pn, sz, sc]
        refine rd_ ?_
        go_wp2_with fail
        refine bp_cct rfl rfl (la hst ta44) (la hst ta44) (by rfl) ⟨?_, hst.keeps⟩
        rfl
      · obtain ⟨m1, m2⟩ := l1 (by omega)
        have hs := hup pm ⟨by
          have : ((pm * pm : Nat) : Int) ≤ ((n * 2 ^ nby n : Nat) : Int) := by rw [Int.natCast_mul]; exact m1
          exact Int.ofNat_le.1 this, by
          have : ((n * 2 ^ nby n : Nat) : Int) < (((pm + 1) * (pm + 1) : Nat) : Int) := by
            have e : (((pm + 1) * (pm + 1) : Nat) : Int) = ((pm : Int) + 1) * ((pm : Int) + 1) := by simp
            rw [e]; exact m2
          exact Int.ofNat_lt.1 this⟩
        have hshr := wide_Shr pm ((nby n / 2 : Nat) : Int) hpM
        rw [clampN_nat _ (by omega), hs] at hshr
        rw [show decide (((n * 2 ^ nby n : Nat) : Int) - (pm : Int) * (pm : Int) < 0) = false by simpa using hneg] at hmin
        clear hneg hs hup hu1 hu2 huM u1 u2 l1 l2 l3 l4 hsm hHM hpm hp1 m1 m2 q1 q2 q3 h h0 hob h1'
        generalize toW (((n * 2 ^ nby n : Nat) : Int) - (pm : Int) * (pm : Int)) = lv at *
        generalize n - isqrt n * isqrt n = rv at *
        generalize isqrt n * isqrt n = sv at *
        generalize isqrt n = s at *
        generalize nby n / 2 = x at *
        generalize n * 2 ^ nby n = up at *
        go_enter Tryz.func224, Tryz.ntmps224
        go_wp2_with ((first | (refine kf gf225 hst (hnorm) rfl rfl rfl rfl ?_; clear hst; intro w hst) | (refine kT gf226 hst (fun w hst => hrun b8 w (hst.own _ _ (by simp))) rfl rfl rfl rfl ?_; clear hst; intro w hst) | (refine kf gf228 hst (hmin) rfl rfl rfl rfl ?_; clear hst; intro w hst) | (refine kf gf87 hst (hshr) rfl rfl rfl rfl ?_; clear hst; intro w hst) | (refine kf gf71 hst (hsq) rfl rfl rfl rfl ?_; clear hst; intro w hst) | (refine kf gf122 hst (hsub) rfl rfl rfl rfl ?_; clear hst; intro w hst) | (refine kb 1 hst rfl rfl ?_; clear hst; intro b1 w hb1 hst) | (refine ka 2 hst tz44 rfl rfl ?_; clear hst; intro b2 w hb2 hst) | (refine ka 3 hst tz44 rfl rfl ?_; clear hst; intro b3 w hb3 hst) | (refine kl hst ta44 rfl ?_) | (refine ka 5 hst tz44 rfl rfl ?_; clear hst; intro b5 w hb5 hst) | (refine kt hst ta44 rfl rfl ?_; clear hst; intro w hst) | (refine ke tr44 tc22 rfl ?_) | (refine ka 8 hst tz278 rfl rfl ?_; clear hst; intro b8 w hb8 hst) | (refine klm hst ta44 rfl ?_) | (refine ka 9 hst tz44 rfl rfl ?_; clear hst; intro b9 w hb9 hst) | (refine ka 11 hst tz44 rfl rfl ?_; clear hst; intro b11 w hb11 hst) | (refine ka 13 hst tz44 rfl rfl ?_; clear hst; intro b13 w hb13 hst)); try simp only [pz, pn, sz, sc])
        refine wp_region_TV 5 [(b13, .cells (wc 8 rv) 44), (b9, .cells (wc 8 s) 44)] hst (by kernel_rfl) ?_; clear hst; intro w hst; (try simp only [List.length_cons, List.length_nil, Nat.reduceAdd, Array.replicate_succ, Array.replicate_zero, List.push_toArray, List.nil_append, List.cons_append])
        refine rl 0 rfl ?_ (by first | exact ylA ta44 | exact ylM ta44); simp only [pz, pn, sz, sc]
        refine rl 1 rfl ?_ (by first | exact ylA ta44 | exact ylM ta44); simp only [pz, pn, sz, sc]
        refine r1 2 ?_; (refine kt hst ta44 rfl rfl ?_; clear hst; intro w hst); (try simp only [pz, pn, sz, sc]); refine re ?_
        refine r1 3 ?_; (refine kt hst ta44 rfl rfl ?_; clear hst; intro w hst); (try simp only [pz, pn, sz, sc]); refine re ?_
        refine r0 4 ?_; simp only [pz, pn, sz, sc]
        refine rd_ ?_
        go_wp2_with fail
        refine bp_cct rfl rfl (la hst ta44) (la hst ta44) (by rfl) ⟨?_, hst.keeps⟩
        rfl
    · rw [if_neg h]
      have hnorm := srtroot_Norm_big n h hn
      clear h h0
      go_enter Tryz.func224, Tryz.ntmps224
      go_wp2_with ((first | (refine kf gf225 hst (hnorm) rfl rfl rfl rfl ?_; clear hst; intro w hst) | (refine kb 1 hst rfl rfl ?_; clear hst; intro b1 w hb1 hst) | (refine ka 2 hst tz44 rfl rfl ?_; clear hst; intro b2 w hb2 hst) | (refine ka 3 hst tz44 rfl rfl ?_; clear hst; intro b3 w hb3 hst) | (refine kl hst ta44 rfl ?_) | (refine ka 5 hst tz44 rfl rfl ?_; clear hst; intro b5 w hb5 hst) | (refine kt hst ta44 rfl rfl ?_; clear hst; intro w hst) | (refine ke tr44 tc22 rfl ?_)); try simp only [pz, pn, sz, sc])
      refine bp_cct rfl rfl (la hst ta44) (la hst ta44) (by rfl) ⟨?_, hst.keeps⟩
      rw [W_zero]; rfl

end Go.Proofs.YtefpoconpeggpaaGreatDoor.Rd

namespace Go.Proofs.YtefpoconpeggpaaGreatDoor.Rd
set_option linter.unusedVariables false

end Go.Proofs.YtefpoconpeggpaaGreatDoor.Rd

namespace Go.Proofs.YtefpoconpeggpaaGreatDoor.Rd
set_option linter.unusedVariables false
set_option maxRecDepth 100000

/-- 2^128 and 2^160. -/
def K : Nat := 2 ^ 128
def R : Nat := 2 ^ 160
theorem K_pos : 0 < K := by decide
theorem R_pos : 0 < R := by decide
end Go.Proofs.YtefpoconpeggpaaGreatDoor.Rd
