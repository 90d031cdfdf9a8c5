/- What prod.Mul and Small answer, as numbers. -/
import Derived.Test.YtojjmcghcgidlaaDoorRdH
import Derived.Test.YtojjmcghcgidlaaDoorRdE
namespace Go.Proofs.YtojjmcghcgidlaaDoor.Rd
open Go Go.RowKit
set_option linter.unusedVariables false
set_option linter.unusedSimpArgs false
set_option maxRecDepth 100000

theorem inner_all (a b i : Nat) : ∀ k, inner (fun _ => true) a b i k = lb a i * B ^ i * (b % B ^ k)
  | 0 => by simp [inner, Nat.mod_one]
  | k + 1 => by
    simp only [inner, if_true]
    rw [inner_all a b i k, lb_split b k, Nat.mul_add]
    congr 1
    rw [Nat.pow_add, Nat.mul_assoc, Nat.mul_assoc, Nat.mul_left_comm (lb b k)]
theorem outer_all (a b : Nat) (hb : b < M) : ∀ i, outer (fun _ => true) a b i = a % B ^ i * b
  | 0 => by simp [outer, Nat.mod_one]
  | i + 1 => by
    simp only [outer]
    rw [outer_all a b hb i, inner_all, lb_split a i, Nat.add_mul, ← M_eq, Nat.mod_eq_of_lt hb]
theorem outer_mul (a b : Nat) (ha : a < M) (hb : b < M) : outer (fun _ => true) a b 8 = a * b := by
  rw [outer_all a b hb, ← M_eq, Nat.mod_eq_of_lt ha]

theorem prod_all (k : Int) : Gives Tryd.prog 71 #[.int .i64 k] (.bool true) := by
  intro w0
  have hst := St.start [] w0
  go_enter Tryd.func71, Tryd.ntmps71
  go_wp2_with fail
  refine bp_t rfl rfl (by rfl) ⟨?_, hst.keeps⟩
  rfl

theorem mul_lt17 (a b : Nat) (ha : a < M) (hb : b < M) : a * b < B ^ 17 := by
  have h1 : a * b < M * M := Nat.mul_lt_mul'' ha hb
  have h2 : M * M = B ^ 16 := by rw [M_eq, ← Nat.pow_add]
  have h3 : B ^ 16 ≤ B ^ 17 := Nat.pow_le_pow_right B_pos (by omega)
  omega

theorem bl_beq (n : Nat) : bl n = 0 ↔ n = 0 := by
  constructor
  · intro h
    by_cases h0 : n = 0
    · exact h0
    · have := bl_pos h0; omega
  · intro h; subst h; rfl

theorem high_zero (n : Nat) (hn : n < B ^ 17) : bl (n / B ^ 8 % B ^ 9) = 0 ↔ n < M := by
  rw [bl_beq]
  have h1 : n / B ^ 8 < B ^ 9 := by
    rw [Nat.div_lt_iff_lt_mul (Bp_pos 8), ← Nat.pow_add]; exact hn
  rw [Nat.mod_eq_of_lt h1, Nat.div_eq_zero_iff_lt (Bp_pos 8), ← M_eq]

set_option maxHeartbeats 4000000 in
theorem prod_Mul (a b : Nat) (ha : a < M) (hb : b < M) : Gives Tryd.prog 54 #[W a, W b] (.tuple #[W (a * b % M), .bool (decide (a * b < M))]) := by
  intro w0
  have hst := St.start [] w0
  have hw := fun w => prod_whole a b 71 gf71 #[] (fun _ => true) w (fun w' _ k _ => prod_all k w')
  rw [outer_mul a b ha hb] at hw
  have hlt := mul_lt17 a b ha hb
  have hh := high_zero (a * b) hlt
  generalize a * b = n at *
  have hof := fun (b6 : Nat) w (h : w.heap[b6]? = some (.cells (wc 17 n) 97 (0, 0))) => wide_Of b6 0 8 17 17 n 97 (0, 0) (by omega) w h
  rw [Nat.pow_zero, Nat.div_one, show min 8 8 = 8 from rfl, ← M_eq] at hof
  have hlen := fun (b6 : Nat) w (h : w.heap[b6]? = some (.cells (wc 17 n) 97 (0, 0))) => limb_Len b6 8 9 9 17 n 97 (0, 0) (by omega) (by omega) (by omega) w h
  have hres : ((bl (n / B ^ 8 % B ^ 9) : Int) == 0) = decide (n < M) := by rw [cast_beq0]; simp [hh]
  generalize bl (n / B ^ 8 % B ^ 9) = q at *
  clear hh
  have hres' := Lib.hid hres
  clear hres
  go_enter Tryd.func54, Tryd.ntmps54
  go_wp2_with ((first | (refine kf gf70 hst (hw) rfl rfl rfl rfl ?_; clear hst; intro w hst) | (refine kb 2 hst rfl rfl ?_; clear hst; intro b2 w hb2 hst) | (refine kb 3 hst rfl rfl ?_; clear hst; intro b3 w hb3 hst) | (refine ka 4 hst tz24 rfl rfl ?_; clear hst; intro b4 w hb4 hst) | (refine kl hst ta24 rfl ?_) | (refine ka 6 hst tz97 rfl rfl ?_; clear hst; intro b6 w hb6 hst) | (refine kt hst ta97 rfl rfl ?_; clear hst; intro w hst) | (refine kt hst ta24 rfl rfl ?_; clear hst; intro w hst)); try simp only [pz, pn, sz, sc])
  refine wp_region_T 5  hst (by kernel_rfl) ?_; clear hst; intro w hst; (try dsimp only [List.length_cons, List.length_nil]); (try simp only [List.length_cons, List.length_nil, Nat.reduceAdd, Array.replicate_succ, Array.replicate_zero, List.push_toArray, List.nil_append, List.cons_append])
  refine r0 0 ?_; simp only [pz, pn, sz, sc]
  refine r0 2 ?_; simp only [pz, pn, sz, sc]
  refine r1 1 ?_; (first | (refine kg gf41 hst (fun w hst => hof b6 w (hst.own _ _ (by repeat (first | exact List.Mem.head _ | refine List.Mem.tail _ ?_)))) rfl rfl rfl rfl ?_; clear hst; intro w hst) | (refine kg gf72 hst (fun w hst => hlen b6 w (hst.own _ _ (by repeat (first | exact List.Mem.head _ | refine List.Mem.tail _ ?_)))) rfl rfl rfl rfl ?_; clear hst; intro w hst) | (refine kp ?_)); (try simp only [pz, pn, sz, sc]); refine re ?_
  refine r1 3 ?_; (first | (refine kg gf41 hst (fun w hst => hof b6 w (hst.own _ _ (by repeat (first | exact List.Mem.head _ | refine List.Mem.tail _ ?_)))) rfl rfl rfl rfl ?_; clear hst; intro w hst) | (refine kg gf72 hst (fun w hst => hlen b6 w (hst.own _ _ (by repeat (first | exact List.Mem.head _ | refine List.Mem.tail _ ?_)))) rfl rfl rfl rfl ?_; clear hst; intro w hst) | (refine kp ?_)); (try simp only [pz, pn, sz, sc]); refine re ?_
  refine r0 4 ?_; simp only [pz, pn, sz, sc]
  refine r1 5 ?_; (refine kt hst ta24 rfl rfl ?_; clear hst; intro w hst); (try simp only [pz, pn, sz, sc]); refine re ?_
  refine r0 6 ?_; simp only [pz, pn, sz, sc]
  refine rd_ ?_
  go_wp2_with ((first | (refine kb 2 hst rfl rfl ?_; clear hst; intro b2 w hb2 hst) | (refine kb 3 hst rfl rfl ?_; clear hst; intro b3 w hb3 hst) | (refine ka 4 hst tz24 rfl rfl ?_; clear hst; intro b4 w hb4 hst) | (refine kl hst ta24 rfl ?_) | (refine ka 6 hst tz97 rfl rfl ?_; clear hst; intro b6 w hb6 hst) | (refine kt hst ta97 rfl rfl ?_; clear hst; intro w hst) | (refine kt hst ta24 rfl rfl ?_; clear hst; intro w hst)); try simp only [pz, pn, sz, sc])
  refine bp_ct rfl rfl (la hst ta24) (by rfl) ⟨?_, hst.keeps⟩
  rw [hres'.out]; rfl

end Go.Proofs.YtojjmcghcgidlaaDoor.Rd
