/- What prod.Small answers. -/
import Derived.Test.YtefpoconpeggpaaGreatDoorL13
import Derived.Test.YtefpoconpeggpaaGreatDoorL03
namespace Go.Proofs.YtefpoconpeggpaaGreatDoor.Rd
open Go Go.RowKit
set_option linter.unusedVariables false
set_option linter.unusedSimpArgs false
set_option maxRecDepth 100000

theorem wc0 : (#[.int .u64 0, .int .u64 0, .int .u64 0, .int .u64 0, .int .u64 0, .int .u64 0, .int .u64 0, .int .u64 0] : Array Value) = wc 8 0 := by kernel_rfl

/-- The root's digits but the last t. -/
def rt (n t : Nat) : Nat := rootS n (128 - t)
theorem rt_top (n : Nat) : rt n 128 = 0 := rfl
theorem rt_zero (n : Nat) : rt n 0 = isqrt n := rfl
theorem rt_step (n j : Nat) (hj : j < 128) : rt n j = if (2 * rt n (j + 1) + 1) * (2 * rt n (j + 1) + 1) * 4 ^ j ≤ n then 2 * rt n (j + 1) + 1 else 2 * rt n (j + 1) := by
  unfold rt
  rw [show 128 - j = (128 - (j + 1)) + 1 by omega]
  simp only [rootS]
  rw [show 127 - (128 - (j + 1)) = j by omega]
theorem rt_inv (n t : Nat) (hn : n < 4 ^ 128) (ht : t ≤ 128) : rt n t < 2 ^ (128 - t) ∧ rt n t * rt n t * 4 ^ t ≤ n ∧ n < (rt n t + 1) * (rt n t + 1) * 4 ^ t := by
  have := rootS_inv n hn (128 - t) (by omega)
  rw [show 128 - (128 - t) = t by omega] at this
  exact this
/-- What is left, two times the root so far, what is taken away. -/
def lf (n t : Nat) : Nat := n - rt n t * rt n t * 4 ^ t
def tw (n t : Nat) : Nat := rt n t * 2 ^ (t + 1)
def tk (n j : Nat) : Nat := tw n (j + 1) * 2 ^ j + 2 ^ (2 * j)
theorem four_pow (j : Nat) : 2 ^ (2 * j) = 4 ^ j := by rw [Nat.pow_mul]
theorem tk_eq (n j : Nat) : tk n j = (4 * rt n (j + 1) + 1) * 4 ^ j := by
  unfold tk tw
  rw [four_pow, Nat.add_mul, Nat.one_mul, Nat.mul_assoc, ← Nat.pow_add, show j + 1 + 1 + j = 2 + 2 * j by omega, Nat.pow_add, four_pow]
  rw [show (2:Nat) ^ 2 = 4 from rfl, ← Nat.mul_assoc, Nat.mul_comm (rt n (j + 1)) 4]
theorem tw_lt (n j : Nat) (hn : n < 4 ^ 128) (hj : j < 128) : tw n (j + 1) * 2 ^ j < 2 ^ 256 := by
  have h := (rt_inv n (j + 1) hn (by omega)).1
  unfold tw
  rw [Nat.mul_assoc, ← Nat.pow_add]
  have h2 : rt n (j + 1) * 2 ^ (j + 1 + 1 + j) < 2 ^ (128 - (j + 1)) * 2 ^ (j + 1 + 1 + j) := Nat.mul_lt_mul_of_pos_right h (Nat.pow_pos (by omega))
  rw [← Nat.pow_add] at h2
  exact Nat.lt_of_lt_of_le h2 (Nat.pow_le_pow_right (by omega) (by omega))
theorem lf_step (n j : Nat) (hn : n < 4 ^ 128) (hj : j < 128) :
    (tk n j ≤ lf n (j + 1) ∧ rt n j = 2 * rt n (j + 1) + 1 ∧ lf n j = lf n (j + 1) - tk n j ∧ tw n j = tw n (j + 1) + 2 ^ (j + 1)) ∨
    (lf n (j + 1) < tk n j ∧ rt n j = 2 * rt n (j + 1) ∧ lf n j = lf n (j + 1) ∧ tw n j = tw n (j + 1)) := by
  have hs := rt_step n j hj
  have hi := rt_inv n (j + 1) hn (by omega)
  have ht := tk_eq n j
  unfold lf tw
  rw [ht]
  rw [Nat.pow_succ] at hi ⊢
  have e1 : 2 ^ (j + 1 + 1) = 2 * 2 ^ (j + 1) := by rw [Nat.pow_succ, Nat.mul_comm]
  rw [e1]
  generalize rt n (j + 1) = s at *
  generalize 4 ^ j = f at *
  generalize 2 ^ (j + 1) = p at *
  have g0 : (2 * s + 1) * (2 * s + 1) * f = s * s * (f * 4) + (4 * s + 1) * f := by grind
  have g1 : 2 * s * (2 * s) * f = s * s * (f * 4) := by grind
  have g2 : (2 * s + 1) * p = s * (2 * p) + p := by grind
  have g3 : 2 * s * p = s * (2 * p) := by grind
  by_cases h : (2 * s + 1) * (2 * s + 1) * f ≤ n
  · rw [if_pos h] at hs
    left
    rw [hs, g0, g2]
    exact ⟨by omega, rfl, by omega, rfl⟩
  · rw [if_neg h] at hs
    right
    rw [hs, g1, g3]
    exact ⟨by omega, rfl, rfl, rfl⟩
theorem pow_M {k : Nat} (h : k < 512) : 2 ^ k < M := by
  have key : ∀ m, M = 2 ^ m → k < m → 2 ^ k < M := fun m e h => by rw [e]; exact Nat.pow_lt_pow_right (by omega) h
  exact key (64 * 8) (by rw [M_eq, show B = 2 ^ 64 from rfl, ← Nat.pow_mul]) h
theorem small_M {x : Nat} (h : x < 4 * 2 ^ 256) : x < M := Nat.lt_of_lt_of_le h (by
  have key : ∀ m, 256 = m → 4 * 2 ^ m ≤ M := fun m e => by
    have := Nat.le_of_lt (pow_M (k := m + 2) (by omega))
    rwa [Nat.pow_add, Nat.mul_comm] at this
  exact key 256 rfl)
theorem four128 : 4 ^ 128 < M := by
  have : ∀ k, 128 = k → 4 ^ k < M := fun k e => by rw [show (4 : Nat) = 2 ^ 2 from rfl, ← Nat.pow_mul, ← e]; exact pow_M (by omega)
  exact this 128 rfl

set_option maxHeartbeats 8000000 in
theorem root2_run (n c1 c2 : Nat) (hn : n < 4 ^ 128) (E1 E2 : TypeId) (hne : c2 ≠ c1) (w0 : World) (h1 : w0.heap[c1]? = some (.cells (wc 8 0) E1)) (h2 : w0.heap[c2]? = some (.cells (wc 8 0) E2)) :
    GivesT Tryz.prog 220 #[W n, .func (.func 221) #[] #[.pointer (some ⟨c1, 0, none⟩), .pointer (some ⟨c2, 0, none⟩)]] (.tuple #[]) [(c1, .cells (wc 8 0) E1), (c2, .cells (wc 8 0) E2)]
      [(c1, .cells (wc 8 (isqrt n)) E1), (c2, .cells (wc 8 (n - isqrt n * isqrt n)) E2)] w0 := by
  have hst := Swap.two hne h1 h2 [c1, c2]
  have hlt1 := lt_of_some h1
  have hlt2 := lt_of_some h2
  have i0 : lf n 128 = n := by unfold lf; rw [rt_top]; simp
  have i1 : tw n 128 = 0 := by unfold tw; rw [rt_top, Nat.zero_mul]
  have ie : lf n 0 = n - isqrt n * isqrt n := by unfold lf; rw [rt_zero]; simp
  have hn' := Lib.hid hn
  have hq := Lib.hid (rt_zero n)
  rw [← ie]
  clear h1 h2 ie hn
  go_enter Tryz.func220, Tryz.ntmps220
  go_wp2_with ((first | (refine kb 2 hst rfl rfl ?_; clear hst; intro b2 w hb2 hst) | (refine kl hst ta44 rfl ?_) | (refine ka 4 hst tz44 rfl rfl ?_; clear hst; intro b4 w hb4 hst) | (refine ka 5 hst tz44 rfl rfl ?_; clear hst; intro b5 w hb5 hst) | (refine kt hst ta44 rfl rfl ?_; clear hst; intro w hst)); try simp only [pz, pn, sz, sc])
  rw [wc0] at hst
  go_loopw [6] (fun vi wr => ∃ (t r : Nat), t ≤ 128 ∧ vi = .int .i64 ((t : Int) - 1) ∧ (t = 0 → r = lf n 0) ∧ St w0 [c1, c2] [(b5, .cells (wc 8 (tw n t)) 44), (b4, .cells (wc 8 (lf n t)) 44), (c1, .cells (wc 8 (rt n t)) E1), (c2, .cells (wc 8 r) E2)] wr) (fun vi _ => (intOf vi + 1).toNat)
  case atStart => exact ⟨128, 0, by omega, by go_num, fun h => absurd h (by omega), by rw [i0, i1, rt_top]; exact hst.sub (by repeat (first | exact List.Sublist.refl _ | exact List.nil_sublist _ | refine List.Sublist.cons_cons _ ?_ | refine List.Sublist.cons _ ?_))⟩
  case round =>
    clear hst i0 i1
    obtain ⟨t, r, ht, rfl, hr, hst⟩ := hrel
    cases t with
    | zero =>
      obtain rfl := hr rfl
      clear hr
      rw [hq.out] at hst
      go_wp2_with fail
      exact bp_0 rfl rfl (GivesT.of hst rfl (by simp))
    | succ j =>
      have hj : j < 128 := by omega
      have hstep := lf_step n j hn'.out hj
      have hlM : lf n (j + 1) < M := Nat.lt_of_le_of_lt (Nat.sub_le _ _) (Nat.lt_trans hn'.out four128)
      have htw := tw_lt n j hn'.out hj
      have h256 : 2 ^ 256 < M := pow_M (by omega)
      have hp2 : 2 ^ (2 * j) < M := pow_M (by omega)
      have htkM : tk n j < M := by
        unfold tk
        have h1 : 2 ^ (2 * j) ≤ 2 ^ 254 := Nat.pow_le_pow_right (by omega) (by omega)
        have h2 : 2 ^ 256 + 2 ^ 254 < M := small_M (by decide)
        omega
      have hrt := (rt_inv n (j + 1) hn'.out (by omega)).1
      have hrM : 2 * rt n (j + 1) + 1 < M := by
        have h1 : 2 ^ (128 - (j + 1)) ≤ 2 ^ 128 := Nat.pow_le_pow_right (by omega) (by omega)
        have h2 : 2 * 2 ^ 128 + 1 < M := small_M (by decide)
        omega
      have htwM : tw n (j + 1) < M := Nat.lt_of_le_of_lt (Nat.le_mul_of_pos_right _ (Nat.pow_pos (by omega))) (Nat.lt_trans htw h256)
      have hshl := wide_Shl (tw n (j + 1)) (j : Int) htwM
      rw [clampN_nat j (by omega), Nat.mod_eq_of_lt (Nat.lt_trans htw h256)] at hshl
      have hpow := wide_Power (2 * (j : Int))
      have ep : pow2 (2 * (j : Int)) = 2 ^ (2 * j) := by unfold pow2; rw [if_pos (by omega)]; congr 1
      rw [ep] at hpow
      have hpow1 := wide_Power ((j : Int) + 1)
      have ep1 : pow2 ((j : Int) + 1) = 2 ^ (j + 1) := by unfold pow2; rw [if_pos (by omega)]; congr 1
      rw [ep1] at hpow1
      have hsum := fun b w h => prod_Sum [tw n (j + 1) * 2 ^ j, 2 ^ (2 * j)] b 2 44 (0, 0) (by intro x hx; simp at hx; rcases hx with rfl | rfl; exact Nat.lt_trans htw h256; exact hp2) (by simp) w h
      have es : [tw n (j + 1) * 2 ^ j, 2 ^ (2 * j)].sum % M = tk n j := by rw [show [tw n (j + 1) * 2 ^ j, 2 ^ (2 * j)].sum = tk n j by simp [tk], Nat.mod_eq_of_lt htkM]
      rw [es] at hsum
      have hsub := wide_Sub (lf n (j + 1)) (tk n j) hlM htkM
      have h0 : (0 : Int) ≤ (j : Int) := by omega
      have w1 : IntKind.i64.wrap (2 * (j : Int)) = 2 * (j : Int) := i64w _ (by omega) (by omega)
      have w2 : IntKind.i64.wrap ((j : Int) + 1) = (j : Int) + 1 := i64w _ (by omega) (by omega)
      have ek : ((j + 1 : Nat) : Int) - 1 = (j : Int) := by omega
      rw [ek]
      rcases hstep with ⟨k1, k2, k3, k4⟩ | ⟨k1, k2, k3, k4⟩
      · have hd : decide (lf n (j + 1) < tk n j) = false := by simp; omega
        have e1 : (lf n (j + 1) + M - tk n j) % M = lf n j := by rw [show lf n (j + 1) + M - tk n j = lf n j + M by omega, Nat.add_mod_right, Nat.mod_eq_of_lt (by omega)]
        rw [hd, e1] at hsub
        have hp1M : 2 ^ (j + 1) < M := pow_M (by omega)
        have hadd := wide_Add (tw n (j + 1)) (2 ^ (j + 1)) htwM hp1M
        have e2 : (tw n (j + 1) + 2 ^ (j + 1)) % M = tw n j := by
          rw [k4]
          apply Nat.mod_eq_of_lt
          have h1 : tw n (j + 1) ≤ tw n (j + 1) * 2 ^ j := Nat.le_mul_of_pos_right _ (Nat.pow_pos (by omega))
          have h2 : 2 ^ (j + 1) ≤ 2 ^ 128 := Nat.pow_le_pow_right (by omega) (by omega)
          have h3 : 2 ^ 256 + 2 ^ 128 < M := small_M (by decide)
          omega
        rw [e2] at hadd
        have hcb := fun (w : World) (q1 : w.heap[c1]? = some (.cells (wc 8 (rt n (j + 1))) E1)) (q2 : w.heap[c2]? = some (.cells (wc 8 r) E2)) => root2_Root_1 1 (rt n (j + 1)) r (lf n j) c1 c2 (by omega) hrM E1 E2 hne w q1 q2
        rw [← k2] at hcb
        clear e1 e2 k1 k2 k3 k4 hrM hrt htkM htw h256 hp2 ek ep ep1 es hr hp1M htwM hlM
        generalize tw n (j + 1) * 2 ^ j = A1 at *
        generalize 2 ^ (2 * j) = A2 at *
        generalize 2 ^ (j + 1) = A3 at *
        generalize tk n j = A4 at *
        go_wp2_with fail
        refine wp_region_T 14  hst (by kernel_rfl) ?_; clear hst; intro w hst; (try simp only [List.length_cons, List.length_nil, Nat.reduceAdd, Array.replicate_succ, Array.replicate_zero, List.push_toArray, List.nil_append, List.cons_append])
        refine r0 2 ?_; simp only [pz, pn, sz, sc, w1]
        refine r0 4 ?_; simp only [pz, pn, sz, sc, w1]
        refine r0 5 ?_; simp only [pz, pn, sz, sc, w1]
        refine rl 0 rfl ?_ (by first | exact ylA ta44 | exact ylM ta44); simp only [pz, pn, sz, sc, w1]
        refine rl 1 rfl ?_ (by first | exact ylA ta44 | exact ylM ta44); simp only [pz, pn, sz, sc, w1]
        refine r2 3 13 ?_ ?_
        (refine kf gf48 hst (hshl) rfl rfl rfl rfl ?_; clear hst; intro w hst); (try simp only [pz, pn, sz, sc, w1]); refine re ?_
        refine r2 6 13 ?_ ?_
        (refine kf gf127 hst (hpow) rfl rfl rfl rfl ?_; clear hst; intro w hst); (try simp only [pz, pn, sz, sc, w1]); refine re ?_
        refine r2 7 13 ?_ ?_
        (refine kS 23 hst ts162_ (tw44_2 _ _) rfl rfl ?_; clear hst; intro b23 w hb23 hst); (try simp only [pz, pn, sz, sc, w1]); refine re ?_
        refine r2 8 13 ?_ ?_
        (refine kg gf72 hst (fun w hst => hsum _ w (hst.own _ _ (by simp))) rfl rfl rfl rfl ?_; clear hst; intro w hst); (try simp only [pz, pn, sz, sc, w1]); refine re ?_
        refine r2 9 13 ?_ ?_
        (refine kf gf122 hst (hsub) rfl rfl rfl rfl ?_; clear hst; intro w hst); (try simp only [pz, pn, sz, sc, w1]); refine re ?_
        refine r0 10 ?_; simp only [pz, pn, sz, sc, w1]
        refine r0 11 ?_; simp only [pz, pn, sz, sc, w1]
        refine r0 12 ?_; simp only [pz, pn, sz, sc, w1]
        refine r1 13 ?_; (refine ka 7 hst tz44 rfl rfl ?_; clear hst; intro b7 w hb7 hst); (try simp only [pz, pn, sz, sc, w1]); refine re ?_
        refine r1 14 ?_; (refine kt hst ta44 rfl rfl ?_; clear hst; intro w hst); (try simp only [pz, pn, sz, sc, w1]); refine re ?_
        refine r0 15 ?_; simp only [pz, pn, sz, sc, w1]
        refine rd_ ?_
        rotate_left 1
        (refine ka 7 hst tz44 rfl rfl ?_; clear hst; intro b7 w hb7 hst); (try simp only [pz, pn, sz, sc, w1]); refine re ?_
        refine r1 9 ?_; (refine kf gf122 hst (hsub) rfl rfl rfl rfl ?_; clear hst; intro w hst); (try simp only [pz, pn, sz, sc, w1]); refine re ?_
        refine r0 10 ?_; simp only [pz, pn, sz, sc, w1]
        refine r0 11 ?_; simp only [pz, pn, sz, sc, w1]
        refine r0 12 ?_; simp only [pz, pn, sz, sc, w1]
        refine r1 14 ?_; (refine kt hst ta44 rfl rfl ?_; clear hst; intro w hst); (try simp only [pz, pn, sz, sc, w1]); refine re ?_
        refine r0 15 ?_; simp only [pz, pn, sz, sc, w1]
        refine rd_ ?_
        rotate_right 1
        rotate_left 2
        (refine ka 7 hst tz44 rfl rfl ?_; clear hst; intro b7 w hb7 hst); (try simp only [pz, pn, sz, sc, w1]); refine re ?_
        refine r1 8 ?_; (refine kg gf72 hst (fun w hst => hsum _ w (hst.own _ _ (by simp))) rfl rfl rfl rfl ?_; clear hst; intro w hst); (try simp only [pz, pn, sz, sc, w1]); refine re ?_
        refine r1 9 ?_; (refine kf gf122 hst (hsub) rfl rfl rfl rfl ?_; clear hst; intro w hst); (try simp only [pz, pn, sz, sc, w1]); refine re ?_
        refine r0 10 ?_; simp only [pz, pn, sz, sc, w1]
        refine r0 11 ?_; simp only [pz, pn, sz, sc, w1]
        refine r0 12 ?_; simp only [pz, pn, sz, sc, w1]
        refine r1 14 ?_; (refine kt hst ta44 rfl rfl ?_; clear hst; intro w hst); (try simp only [pz, pn, sz, sc, w1]); refine re ?_
        refine r0 15 ?_; simp only [pz, pn, sz, sc, w1]
        refine rd_ ?_
        rotate_right 2
        rotate_left 3
        (refine ka 7 hst tz44 rfl rfl ?_; clear hst; intro b7 w hb7 hst); (try simp only [pz, pn, sz, sc, w1]); refine re ?_
        refine r1 7 ?_; (refine kS 23 hst ts162_ (tw44_2 _ _) rfl rfl ?_; clear hst; intro b23 w hb23 hst); (try simp only [pz, pn, sz, sc, w1]); refine re ?_
        refine r1 8 ?_; (refine kg gf72 hst (fun w hst => hsum _ w (hst.own _ _ (by simp))) rfl rfl rfl rfl ?_; clear hst; intro w hst); (try simp only [pz, pn, sz, sc, w1]); refine re ?_
        refine r1 9 ?_; (refine kf gf122 hst (hsub) rfl rfl rfl rfl ?_; clear hst; intro w hst); (try simp only [pz, pn, sz, sc, w1]); refine re ?_
        refine r0 10 ?_; simp only [pz, pn, sz, sc, w1]
        refine r0 11 ?_; simp only [pz, pn, sz, sc, w1]
        refine r0 12 ?_; simp only [pz, pn, sz, sc, w1]
        refine r1 14 ?_; (refine kt hst ta44 rfl rfl ?_; clear hst; intro w hst); (try simp only [pz, pn, sz, sc, w1]); refine re ?_
        refine r0 15 ?_; simp only [pz, pn, sz, sc, w1]
        refine rd_ ?_
        rotate_right 3
        rotate_left 4
        (refine ka 7 hst tz44 rfl rfl ?_; clear hst; intro b7 w hb7 hst); (try simp only [pz, pn, sz, sc, w1]); refine re ?_
        refine r1 6 ?_; (refine kf gf127 hst (hpow) rfl rfl rfl rfl ?_; clear hst; intro w hst); (try simp only [pz, pn, sz, sc, w1]); refine re ?_
        refine r1 7 ?_; (refine kS 23 hst ts162_ (tw44_2 _ _) rfl rfl ?_; clear hst; intro b23 w hb23 hst); (try simp only [pz, pn, sz, sc, w1]); refine re ?_
        refine r1 8 ?_; (refine kg gf72 hst (fun w hst => hsum _ w (hst.own _ _ (by simp))) rfl rfl rfl rfl ?_; clear hst; intro w hst); (try simp only [pz, pn, sz, sc, w1]); refine re ?_
        refine r1 9 ?_; (refine kf gf122 hst (hsub) rfl rfl rfl rfl ?_; clear hst; intro w hst); (try simp only [pz, pn, sz, sc, w1]); refine re ?_
        refine r0 10 ?_; simp only [pz, pn, sz, sc, w1]
        refine r0 11 ?_; simp only [pz, pn, sz, sc, w1]
        refine r0 12 ?_; simp only [pz, pn, sz, sc, w1]
        refine r1 14 ?_; (refine kt hst ta44 rfl rfl ?_; clear hst; intro w hst); (try simp only [pz, pn, sz, sc, w1]); refine re ?_
        refine r0 15 ?_; simp only [pz, pn, sz, sc, w1]
        refine rd_ ?_
        rotate_right 4
        rotate_left 5
        (refine ka 7 hst tz44 rfl rfl ?_; clear hst; intro b7 w hb7 hst); (try simp only [pz, pn, sz, sc, w1]); refine re ?_
        refine r1 3 ?_; (refine kf gf48 hst (hshl) rfl rfl rfl rfl ?_; clear hst; intro w hst); (try simp only [pz, pn, sz, sc, w1]); refine re ?_
        refine r1 6 ?_; (refine kf gf127 hst (hpow) rfl rfl rfl rfl ?_; clear hst; intro w hst); (try simp only [pz, pn, sz, sc, w1]); refine re ?_
        refine r1 7 ?_; (refine kS 23 hst ts162_ (tw44_2 _ _) rfl rfl ?_; clear hst; intro b23 w hb23 hst); (try simp only [pz, pn, sz, sc, w1]); refine re ?_
        refine r1 8 ?_; (refine kg gf72 hst (fun w hst => hsum _ w (hst.own _ _ (by simp))) rfl rfl rfl rfl ?_; clear hst; intro w hst); (try simp only [pz, pn, sz, sc, w1]); refine re ?_
        refine r1 9 ?_; (refine kf gf122 hst (hsub) rfl rfl rfl rfl ?_; clear hst; intro w hst); (try simp only [pz, pn, sz, sc, w1]); refine re ?_
        refine r0 10 ?_; simp only [pz, pn, sz, sc, w1]
        refine r0 11 ?_; simp only [pz, pn, sz, sc, w1]
        refine r0 12 ?_; simp only [pz, pn, sz, sc, w1]
        refine r1 14 ?_; (refine kt hst ta44 rfl rfl ?_; clear hst; intro w hst); (try simp only [pz, pn, sz, sc, w1]); refine re ?_
        refine r0 15 ?_; simp only [pz, pn, sz, sc, w1]
        refine rd_ ?_
        rotate_right 5
        all_goals
          go_wp2_with ((first | (refine kl hst ta44 rfl ?_) | (refine kt hst ta44 rfl rfl ?_; clear hst; intro w hst)); try simp only [pz, pn, sz, sc])
          refine wp_region_T 8  hst (by kernel_rfl) ?_; clear hst; intro w hst; (try simp only [List.length_cons, List.length_nil, Nat.reduceAdd, Array.replicate_succ, Array.replicate_zero, List.push_toArray, List.nil_append, List.cons_append])
          refine r0 1 ?_; simp only [pz, pn, sz, sc, w2]
          refine r0 2 ?_; simp only [pz, pn, sz, sc, w2]
          refine rl 0 rfl ?_ (by first | exact ylA ta44 | exact ylM ta44); simp only [pz, pn, sz, sc, w2]
          refine r1 3 ?_; (refine kf gf127 hst (hpow1) rfl rfl rfl rfl ?_; clear hst; intro w hst); (try simp only [pz, pn, sz, sc, w2]); refine re ?_
          refine r1 4 ?_; (refine kf gf104 hst (hadd) rfl rfl rfl rfl ?_; clear hst; intro w hst); (try simp only [pz, pn, sz, sc, w2]); refine re ?_
          refine r0 5 ?_; simp only [pz, pn, sz, sc, w2]
          refine r0 6 ?_; simp only [pz, pn, sz, sc, w2]
          refine r0 7 ?_; simp only [pz, pn, sz, sc, w2]
          refine r1 8 ?_; (refine kt hst ta44 rfl rfl ?_; clear hst; intro w hst); (try simp only [pz, pn, sz, sc, w2]); refine re ?_
          refine rd_ ?_
          go_wp2_with ((first | (refine kT gf221 hst (fun w hst => hcb w (hst.own _ _ (by simp)) (hst.own _ _ (by simp))) rfl rfl rfl rfl ?_; clear hst; intro w hst) | (refine kl hst ta44 rfl ?_)); try simp only [pz, pn, sz, sc])
          go_roundw
          case rel => exact ⟨j, lf n j, by omega, by go_num, fun h => by rw [h], hst.sub (by repeat (first | exact List.Sublist.refl _ | exact List.nil_sublist _ | refine List.Sublist.cons_cons _ ?_ | refine List.Sublist.cons _ ?_))⟩
          case measure => simp [intOf]
      · have hd : decide (lf n (j + 1) < tk n j) = true := by simp; omega
        rw [hd] at hsub
        have hcb := fun (w : World) (q1 : w.heap[c1]? = some (.cells (wc 8 (rt n (j + 1))) E1)) (q2 : w.heap[c2]? = some (.cells (wc 8 r) E2)) => root2_Root_1 0 (rt n (j + 1)) r (lf n (j + 1)) c1 c2 (by omega) hrM E1 E2 hne w q1 q2
        rw [Nat.add_zero, ← k2] at hcb
        have k3' := Lib.hid k3
        have k4' := Lib.hid k4
        clear hd k1 k2 k3 k4 hrM hrt htkM htw h256 hp2 ek ep ep1 es hr htwM hlM
        generalize tw n (j + 1) * 2 ^ j = A1 at *
        generalize 2 ^ (2 * j) = A2 at *
        generalize 2 ^ (j + 1) = A3 at *
        generalize tk n j = A4 at *
        go_wp2_with fail
        refine wp_region_T 14  hst (by kernel_rfl) ?_; clear hst; intro w hst; (try simp only [List.length_cons, List.length_nil, Nat.reduceAdd, Array.replicate_succ, Array.replicate_zero, List.push_toArray, List.nil_append, List.cons_append])
        refine r0 2 ?_; simp only [pz, pn, sz, sc, w1]
        refine r0 4 ?_; simp only [pz, pn, sz, sc, w1]
        refine r0 5 ?_; simp only [pz, pn, sz, sc, w1]
        refine rl 0 rfl ?_ (by first | exact ylA ta44 | exact ylM ta44); simp only [pz, pn, sz, sc, w1]
        refine rl 1 rfl ?_ (by first | exact ylA ta44 | exact ylM ta44); simp only [pz, pn, sz, sc, w1]
        refine r2 3 13 ?_ ?_
        (refine kf gf48 hst (hshl) rfl rfl rfl rfl ?_; clear hst; intro w hst); (try simp only [pz, pn, sz, sc, w1]); refine re ?_
        refine r2 6 13 ?_ ?_
        (refine kf gf127 hst (hpow) rfl rfl rfl rfl ?_; clear hst; intro w hst); (try simp only [pz, pn, sz, sc, w1]); refine re ?_
        refine r2 7 13 ?_ ?_
        (refine kS 23 hst ts162_ (tw44_2 _ _) rfl rfl ?_; clear hst; intro b23 w hb23 hst); (try simp only [pz, pn, sz, sc, w1]); refine re ?_
        refine r2 8 13 ?_ ?_
        (refine kg gf72 hst (fun w hst => hsum _ w (hst.own _ _ (by simp))) rfl rfl rfl rfl ?_; clear hst; intro w hst); (try simp only [pz, pn, sz, sc, w1]); refine re ?_
        refine r2 9 13 ?_ ?_
        (refine kf gf122 hst (hsub) rfl rfl rfl rfl ?_; clear hst; intro w hst); (try simp only [pz, pn, sz, sc, w1]); refine re ?_
        refine r0 10 ?_; simp only [pz, pn, sz, sc, w1]
        refine r0 11 ?_; simp only [pz, pn, sz, sc, w1]
        refine r0 12 ?_; simp only [pz, pn, sz, sc, w1]
        refine r1 13 ?_; (refine ka 7 hst tz44 rfl rfl ?_; clear hst; intro b7 w hb7 hst); (try simp only [pz, pn, sz, sc, w1]); refine re ?_
        refine r1 14 ?_; (refine kt hst ta44 rfl rfl ?_; clear hst; intro w hst); (try simp only [pz, pn, sz, sc, w1]); refine re ?_
        refine r0 15 ?_; simp only [pz, pn, sz, sc, w1]
        refine rd_ ?_
        rotate_left 1
        (refine ka 7 hst tz44 rfl rfl ?_; clear hst; intro b7 w hb7 hst); (try simp only [pz, pn, sz, sc, w1]); refine re ?_
        refine r1 9 ?_; (refine kf gf122 hst (hsub) rfl rfl rfl rfl ?_; clear hst; intro w hst); (try simp only [pz, pn, sz, sc, w1]); refine re ?_
        refine r0 10 ?_; simp only [pz, pn, sz, sc, w1]
        refine r0 11 ?_; simp only [pz, pn, sz, sc, w1]
        refine r0 12 ?_; simp only [pz, pn, sz, sc, w1]
        refine r1 14 ?_; (refine kt hst ta44 rfl rfl ?_; clear hst; intro w hst); (try simp only [pz, pn, sz, sc, w1]); refine re ?_
        refine r0 15 ?_; simp only [pz, pn, sz, sc, w1]
        refine rd_ ?_
        rotate_right 1
        rotate_left 2
        (refine ka 7 hst tz44 rfl rfl ?_; clear hst; intro b7 w hb7 hst); (try simp only [pz, pn, sz, sc, w1]); refine re ?_
        refine r1 8 ?_; (refine kg gf72 hst (fun w hst => hsum _ w (hst.own _ _ (by simp))) rfl rfl rfl rfl ?_; clear hst; intro w hst); (try simp only [pz, pn, sz, sc, w1]); refine re ?_
        refine r1 9 ?_; (refine kf gf122 hst (hsub) rfl rfl rfl rfl ?_; clear hst; intro w hst); (try simp only [pz, pn, sz, sc, w1]); refine re ?_
        refine r0 10 ?_; simp only [pz, pn, sz, sc, w1]
        refine r0 11 ?_; simp only [pz, pn, sz, sc, w1]
        refine r0 12 ?_; simp only [pz, pn, sz, sc, w1]
        refine r1 14 ?_; (refine kt hst ta44 rfl rfl ?_; clear hst; intro w hst); (try simp only [pz, pn, sz, sc, w1]); refine re ?_
        refine r0 15 ?_; simp only [pz, pn, sz, sc, w1]
        refine rd_ ?_
        rotate_right 2
        rotate_left 3
        (refine ka 7 hst tz44 rfl rfl ?_; clear hst; intro b7 w hb7 hst); (try simp only [pz, pn, sz, sc, w1]); refine re ?_
        refine r1 7 ?_; (refine kS 23 hst ts162_ (tw44_2 _ _) rfl rfl ?_; clear hst; intro b23 w hb23 hst); (try simp only [pz, pn, sz, sc, w1]); refine re ?_
        refine r1 8 ?_; (refine kg gf72 hst (fun w hst => hsum _ w (hst.own _ _ (by simp))) rfl rfl rfl rfl ?_; clear hst; intro w hst); (try simp only [pz, pn, sz, sc, w1]); refine re ?_
        refine r1 9 ?_; (refine kf gf122 hst (hsub) rfl rfl rfl rfl ?_; clear hst; intro w hst); (try simp only [pz, pn, sz, sc, w1]); refine re ?_
        refine r0 10 ?_; simp only [pz, pn, sz, sc, w1]
        refine r0 11 ?_; simp only [pz, pn, sz, sc, w1]
        refine r0 12 ?_; simp only [pz, pn, sz, sc, w1]
        refine r1 14 ?_; (refine kt hst ta44 rfl rfl ?_; clear hst; intro w hst); (try simp only [pz, pn, sz, sc, w1]); refine re ?_
        refine r0 15 ?_; simp only [pz, pn, sz, sc, w1]
        refine rd_ ?_
        rotate_right 3
        rotate_left 4
        (refine ka 7 hst tz44 rfl rfl ?_; clear hst; intro b7 w hb7 hst); (try simp only [pz, pn, sz, sc, w1]); refine re ?_
        refine r1 6 ?_; (refine kf gf127 hst (hpow) rfl rfl rfl rfl ?_; clear hst; intro w hst); (try simp only [pz, pn, sz, sc, w1]); refine re ?_
        refine r1 7 ?_; (refine kS 23 hst ts162_ (tw44_2 _ _) rfl rfl ?_; clear hst; intro b23 w hb23 hst); (try simp only [pz, pn, sz, sc, w1]); refine re ?_
        refine r1 8 ?_; (refine kg gf72 hst (fun w hst => hsum _ w (hst.own _ _ (by simp))) rfl rfl rfl rfl ?_; clear hst; intro w hst); (try simp only [pz, pn, sz, sc, w1]); refine re ?_
        refine r1 9 ?_; (refine kf gf122 hst (hsub) rfl rfl rfl rfl ?_; clear hst; intro w hst); (try simp only [pz, pn, sz, sc, w1]); refine re ?_
        refine r0 10 ?_; simp only [pz, pn, sz, sc, w1]
        refine r0 11 ?_; simp only [pz, pn, sz, sc, w1]
        refine r0 12 ?_; simp only [pz, pn, sz, sc, w1]
        refine r1 14 ?_; (refine kt hst ta44 rfl rfl ?_; clear hst; intro w hst); (try simp only [pz, pn, sz, sc, w1]); refine re ?_
        refine r0 15 ?_; simp only [pz, pn, sz, sc, w1]
        refine rd_ ?_
        rotate_right 4
        rotate_left 5
        (refine ka 7 hst tz44 rfl rfl ?_; clear hst; intro b7 w hb7 hst); (try simp only [pz, pn, sz, sc, w1]); refine re ?_
        refine r1 3 ?_; (refine kf gf48 hst (hshl) rfl rfl rfl rfl ?_; clear hst; intro w hst); (try simp only [pz, pn, sz, sc, w1]); refine re ?_
        refine r1 6 ?_; (refine kf gf127 hst (hpow) rfl rfl rfl rfl ?_; clear hst; intro w hst); (try simp only [pz, pn, sz, sc, w1]); refine re ?_
        refine r1 7 ?_; (refine kS 23 hst ts162_ (tw44_2 _ _) rfl rfl ?_; clear hst; intro b23 w hb23 hst); (try simp only [pz, pn, sz, sc, w1]); refine re ?_
        refine r1 8 ?_; (refine kg gf72 hst (fun w hst => hsum _ w (hst.own _ _ (by simp))) rfl rfl rfl rfl ?_; clear hst; intro w hst); (try simp only [pz, pn, sz, sc, w1]); refine re ?_
        refine r1 9 ?_; (refine kf gf122 hst (hsub) rfl rfl rfl rfl ?_; clear hst; intro w hst); (try simp only [pz, pn, sz, sc, w1]); refine re ?_
        refine r0 10 ?_; simp only [pz, pn, sz, sc, w1]
        refine r0 11 ?_; simp only [pz, pn, sz, sc, w1]
        refine r0 12 ?_; simp only [pz, pn, sz, sc, w1]
        refine r1 14 ?_; (refine kt hst ta44 rfl rfl ?_; clear hst; intro w hst); (try simp only [pz, pn, sz, sc, w1]); refine re ?_
        refine r0 15 ?_; simp only [pz, pn, sz, sc, w1]
        refine rd_ ?_
        rotate_right 5
        all_goals
          go_wp2_with ((first | (refine kT gf221 hst (fun w hst => hcb w (hst.own _ _ (by simp)) (hst.own _ _ (by simp))) rfl rfl rfl rfl ?_; clear hst; intro w hst) | (refine kl hst ta44 rfl ?_)); try simp only [pz, pn, sz, sc])
          rw [← k3'.out, ← k4'.out] at hst
          go_roundw
          case rel => exact ⟨j, lf n j, by omega, by go_num, fun h => by rw [h], hst.sub (by repeat (first | exact List.Sublist.refl _ | exact List.nil_sublist _ | refine List.Sublist.cons_cons _ ?_ | refine List.Sublist.cons _ ?_))⟩
          case measure => simp [intOf]

end Go.Proofs.YtefpoconpeggpaaGreatDoor.Rd

namespace Go.Proofs.YtefpoconpeggpaaGreatDoor.Rd
open Go Go.RowKit
set_option linter.unusedVariables false
set_option linter.unusedSimpArgs false
set_option maxRecDepth 100000

/-- Root, remainder and error of a number. -/
def rootV (n : Nat) : Value := if n < 2 ^ 256 then .tuple #[W (isqrt n), W (n - isqrt n * isqrt n), .int .i64 0] else .tuple #[W 0, W 0, .int .i64 4]
theorem four_128 : (4 : Nat) ^ 128 = 2 ^ 256 := by
  have : ∀ k, 128 = k → (4 : Nat) ^ k = 2 ^ (2 * k) := fun k _ => by rw [Nat.pow_mul]
  exact this 128 rfl

set_option maxHeartbeats 4000000 in
theorem root2_Root (n : Nat) (hn : n < M) : Gives Tryz.prog 218 #[W n] (rootV n) := by
  intro w0
  have hst := St.start [] w0
  have hmay := root2_may n hn
  unfold rootV
  by_cases h : n < 2 ^ 256
  · rw [if_pos h] at hmay ⊢
    have hn4 : n < 4 ^ 128 := by rw [four_128]; exact h
    have hrun := fun (b6 b7 : Nat) (hne : b7 ≠ b6) (w : World) (q1 : w.heap[b6]? = some (.cells (wc 8 0) 44)) (q2 : w.heap[b7]? = some (.cells (wc 8 0) 44)) => root2_run n b6 b7 hn4 _ _ hne w q1 q2
    clear h hn4
    generalize n - isqrt n * isqrt n = r at *
    generalize isqrt n = s at *
    go_enter Tryz.func218, Tryz.ntmps218
    go_wp2_with ((first | (refine kf gf219 hst (hmay) rfl rfl rfl rfl ?_; clear hst; intro w hst) | (refine kT gf220 hst (fun w hst => hrun b6 b7 (by have q := hst.nodup; simp only [List.map_cons, List.map_nil, List.nodup_cons, List.mem_cons, List.not_mem_nil, or_false, not_or] at q; omega) w (hst.own _ _ (by simp)) (hst.own _ _ (by simp))) rfl rfl rfl rfl ?_; clear hst; intro w hst) | (refine kb 1 hst rfl rfl ?_; clear hst; intro b1 w hb1 hst) | (refine ka 2 hst tz44 rfl rfl ?_; clear hst; intro b2 w hb2 hst) | (refine ka 3 hst tz44 rfl rfl ?_; clear hst; intro b3 w hb3 hst) | (refine kl hst ta44 rfl ?_) | (refine ka 6 hst tz44 rfl rfl ?_; clear hst; intro b6 w hb6 hst) | (refine ka 7 hst tz44 rfl rfl ?_; clear hst; intro b7 w hb7 hst)); try simp only [pz, pn, sz, sc])
    refine wp_region_TV 5 [(b7, .cells (wc 8 r) 44), (b6, .cells (wc 8 s) 44)] hst (by kernel_rfl) ?_; clear hst; intro w hst; (try simp only [List.length_cons, List.length_nil, Nat.reduceAdd, Array.replicate_succ, Array.replicate_zero, List.push_toArray, List.nil_append, List.cons_append])
    refine rl 0 rfl ?_ (by first | exact ylA ta44 | exact ylM ta44); simp only [pz, pn, sz, sc]
    refine rl 1 rfl ?_ (by first | exact ylA ta44 | exact ylM ta44); simp only [pz, pn, sz, sc]
    refine r1 2 ?_; (refine kt hst ta44 rfl rfl ?_; clear hst; intro w hst); (try simp only [pz, pn, sz, sc]); refine re ?_
    refine r1 3 ?_; (refine kt hst ta44 rfl rfl ?_; clear hst; intro w hst); (try simp only [pz, pn, sz, sc]); refine re ?_
    refine r0 4 ?_; simp only [pz, pn, sz, sc]
    refine rd_ ?_
    go_wp2_with fail
    refine bp_cct rfl rfl (la hst ta44) (la hst ta44) (by rfl) ⟨?_, hst.keeps⟩
    rfl
  · rw [if_neg h] at hmay ⊢
    clear h
    go_enter Tryz.func218, Tryz.ntmps218
    go_wp2_with ((first | (refine kf gf219 hst (hmay) rfl rfl rfl rfl ?_; clear hst; intro w hst) | (refine kb 1 hst rfl rfl ?_; clear hst; intro b1 w hb1 hst) | (refine ka 2 hst tz44 rfl rfl ?_; clear hst; intro b2 w hb2 hst) | (refine ka 3 hst tz44 rfl rfl ?_; clear hst; intro b3 w hb3 hst) | (refine kl hst ta44 rfl ?_) | (refine kt hst ta44 rfl rfl ?_; clear hst; intro w hst)); try simp only [pz, pn, sz, sc])
    refine bp_cct rfl rfl (la hst ta44) (la hst ta44) (by rfl) ⟨?_, hst.keeps⟩
    rw [W_zero]; rfl

end Go.Proofs.YtefpoconpeggpaaGreatDoor.Rd

namespace Go.Proofs.YtefpoconpeggpaaGreatDoor.Rd
open Go Go.RowKit
set_option linter.unusedVariables false
set_option linter.unusedSimpArgs false
set_option maxRecDepth 100000

set_option maxHeartbeats 4000000 in
theorem prod_Small (n x : Nat) (hn : n < M) (hx : x < B) : Gives Tryz.prog 238 #[W n, .int .u64 x] (.tuple #[W (n * x % M), .bool (decide (n * x < M))]) := by
  intro w0
  have hst := St.start [] w0
  have hxM : x < M := Nat.lt_of_lt_of_le hx (by decide)
  have hc := prod_Mul n x hn hxM
  have hof := fun (b8 : Nat) w (h : w.heap[b8]? = some (.cells (wc 1 x) 22 (0, 0))) => (show GivesAt Tryz.prog 131 #[.slice (some ⟨b8, 0, none⟩) 1 1] (W x) w by
    have := wide_Of b8 0 1 1 1 x 22 (0, 0) (by omega) w h
    rwa [show x / B ^ 0 % B ^ (min 1 8) = x by rw [Nat.pow_zero, Nat.div_one]; exact Nat.mod_eq_of_lt (by simpa using hx)] at this)
  have h1 := wc_1 x hx
  have h1' := Lib.hid h1
  clear h1
  go_enter Tryz.func238, Tryz.ntmps238
  go_wp2_with ((first | (refine kb 2 hst rfl rfl ?_; clear hst; intro b2 w hb2 hst) | (refine ka 4 hst tz44 rfl rfl ?_; clear hst; intro b4 w hb4 hst)); try simp only [pz, pn, sz, sc])
  refine wp_region_T 7  hst (by kernel_rfl) ?_; clear hst; intro w hst; (try simp only [List.length_cons, List.length_nil, Nat.reduceAdd, Array.replicate_succ, Array.replicate_zero, List.push_toArray, List.nil_append, List.cons_append])
  refine r0 1 ?_; simp only [pz, pn, sz, sc]
  refine rl 0 rfl ?_ (by first | exact ylA ta44 | exact ylM ta44); simp only [pz, pn, sz, sc]
  refine r1 2 ?_; (refine wl_slice1 (o := ⟨some 8, _, _, _, _, _⟩) hst ts123 te22 rfl rfl (by (simp only [eval_lit, eval_k, eval_f, eval_g, List.getD_cons_succ, List.getD_cons_zero]) <;> rfl) (by rfl) ?_; clear hst; intro b8 w hb8 hst); (try simp only [pz, pn, sz, sc]); refine re ?_
  refine r1 3 ?_; (refine kg gf131 hst (fun w hst => hof _ w (by rw [← h1'.out]; exact hst.own _ _ (by simp))) rfl rfl rfl rfl ?_; clear hst; intro w hst); (try simp only [pz, pn, sz, sc]); refine re ?_
  refine r1 4 ?_; (refine kf gf103 hst (hc) rfl rfl rfl rfl ?_; clear hst; intro w hst); (try simp only [pz, pn, sz, sc]); refine re ?_
  refine r0 5 ?_; simp only [pz, pn, sz, sc]
  refine r0 6 ?_; simp only [pz, pn, sz, sc]
  refine r1 7 ?_; (refine kt hst ta44 rfl rfl ?_; clear hst; intro w hst); (try simp only [pz, pn, sz, sc]); refine re ?_
  refine r0 8 ?_; simp only [pz, pn, sz, sc]
  refine rd_ ?_
  go_wp2_with fail
  refine bp_ct rfl rfl (la hst ta44) (by rfl) ⟨?_, hst.keeps⟩
  rfl

end Go.Proofs.YtefpoconpeggpaaGreatDoor.Rd
