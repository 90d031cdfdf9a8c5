/- What radix2's closure, run, Divide answer. -/
import Derived.Test.YtggchelniblipaaGreatJ25
import Derived.Test.YtggchelniblipaaGreatJ26
namespace Go.Proofs.YtggchelniblipaaGreat.Rd
open Go Go.RowKit
set_option linter.unusedVariables false
set_option linter.unusedSimpArgs false
set_option maxRecDepth 100000

/-- A step's cells. -/
def stpC (d l : Nat) : Array Value := #[.int .i64 (d : Nat)] ++ wc 8 l
theorem stp_size (d : Int) (l : Nat) : (#[Value.int .i64 d] ++ wc 8 l).size = 9 := by simp
theorem stp_one (d : Int) (l : Nat) : OneC (#[Value.int .i64 d] ++ wc 8 l) := ⟨by rw [Array.all_append, wc_one]; first | kernel_rfl | simp [Value.oneCell'] | rfl⟩

set_option maxHeartbeats 4000000 in
theorem radix2_Divide_1 (d l q r b1 b2 : Nat) (hd : d ≤ 1) (hq : 2 * q + 1 < M) (E1 E2 : TypeId) (hne : b2 ≠ b1) (w0 : World) (h1 : w0.heap[b1]? = some (.cells (wc 8 q) E1)) (h2 : w0.heap[b2]? = some (.cells (wc 8 r) E2)) :
    GivesT Tryz.prog 84 #[.agg (stpC d l), .pointer (some ⟨b1, 0, none⟩), .pointer (some ⟨b2, 0, none⟩)] (.bool true) [(b1, .cells (wc 8 q) E1), (b2, .cells (wc 8 r) E2)] [(b1, .cells (wc 8 (2 * q + d)) E1), (b2, .cells (wc 8 l) E2)] w0 := by
  have hst := Swap.two hne h1 h2 [b1, b2]
  have hdB : d < B := by rw [B_val]; omega
  have hof := of_u64 d hdB
  have h1' := Lib.hid (wc_1 d hdB)
  have hsum := fun b w h => prod_Sum [q, q, d] b 3 25 (0, 0) (by intro x hx; simp at hx; omega) (by simp) w h
  have e : [q, q, d].sum % M = 2 * q + d := by rw [show [q, q, d].sum = 2 * q + d by simp; omega, Nat.mod_eq_of_lt (by omega)]
  rw [e] at hsum
  have hw : IntKind.u64.wrap (d : Int) = (d : Int) := by rw [u64_wrap, Nat.mod_eq_of_lt hdB]
  have z1 := stp_size d l
  have z2 := stp_one d l
  have hs1 := lt_of_some h1
  have hs2 := lt_of_some h2
  clear e hq h1 h2
  unfold stpC
  go_enter Tryz.func84, Tryz.ntmps84
  go_wp2_with ((first | (refine kb 3 hst rfl rfl ?_; clear hst; intro b3 w hb3 hst) | (refine kl hst ta25 rfl ?_) | (refine klm hst ta25 rfl ?_) | (refine kc hst tc3 rfl ?_) | (refine wl_slice1 (o := ⟨some 10, _, _, _, _, _⟩) hst ts145 te23 rfl rfl (by (simp only [eval_lit, eval_k, eval_f, eval_g, List.getD_cons_succ, List.getD_cons_zero]) <;> rfl) (by rfl) ?_; clear hst; intro b10 w hb10 hst) | (refine kS 12 hst ts162_ (tw25_3 _ _ _) rfl rfl ?_; clear hst; intro b12 w hb12 hst) | (refine kt hst ta25 rfl rfl ?_; clear hst; intro w hst) | (refine ktm hst ta25 rfl rfl ?_; clear hst; intro w hst)); try simp only [pz, pn, sz, sc])
  refine wp_region_T 9  hst (by kernel_rfl) ?_; clear hst; intro w hst; (try dsimp only [List.length_cons, List.length_nil]); (try simp only [List.length_cons, List.length_nil, Nat.reduceAdd, Array.replicate_succ, Array.replicate_zero, List.push_toArray, List.nil_append, List.cons_append])
  refine r0 2 ?_; simp only [pz, pn, sz, sc, hw]
  refine rl 0 rfl ?_ (by first | exact ylA ta25 | exact ylM ta25); simp only [pz, pn, sz, sc, hw]
  refine rl 1 rfl ?_ (by first | exact ylA ta25 | exact ylM ta25); simp only [pz, pn, sz, sc, hw]
  refine rl 3 rfl ?_ (ylC tc3); simp only [pz, pn, sz, sc, hw]
  refine r0 4 ?_; simp only [pz, pn, sz, sc, hw]
  refine r1 5 ?_; (refine wl_slice1 (o := ⟨some 10, _, _, _, _, _⟩) hst ts145 te23 rfl rfl (by (simp only [eval_lit, eval_k, eval_f, eval_g, List.getD_cons_succ, List.getD_cons_zero]) <;> rfl) (by rfl) ?_; clear hst; intro b10 w hb10 hst); (try simp only [pz, pn, sz, sc, hw]); refine re ?_
  refine r1 6 ?_; (first | (refine kg gf86 hst (fun w hst => hof _ w (by rw [← h1'.out]; exact hst.own _ _ (by repeat (first | exact List.Mem.head _ | refine List.Mem.tail _ ?_)))) rfl rfl rfl rfl ?_; clear hst; intro w hst) | (refine kg gf85 hst (fun w hst => hsum _ w (hst.own _ _ (by repeat (first | exact List.Mem.head _ | refine List.Mem.tail _ ?_)))) rfl rfl rfl rfl ?_; clear hst; intro w hst) | (refine kp ?_)); (try simp only [pz, pn, sz, sc, hw]); refine re ?_
  refine r1 7 ?_; (refine kS 12 hst ts162_ (tw25_3 _ _ _) rfl rfl ?_; clear hst; intro b12 w hb12 hst); (try simp only [pz, pn, sz, sc, hw]); refine re ?_
  refine r1 8 ?_; (first | (refine kg gf86 hst (fun w hst => hof _ w (by rw [← h1'.out]; exact hst.own _ _ (by repeat (first | exact List.Mem.head _ | refine List.Mem.tail _ ?_)))) rfl rfl rfl rfl ?_; clear hst; intro w hst) | (refine kg gf85 hst (fun w hst => hsum _ w (hst.own _ _ (by repeat (first | exact List.Mem.head _ | refine List.Mem.tail _ ?_)))) rfl rfl rfl rfl ?_; clear hst; intro w hst) | (refine kp ?_)); (try simp only [pz, pn, sz, sc, hw]); refine re ?_
  refine r1 9 ?_; (first | (refine kt hst ta25 rfl rfl ?_; clear hst; intro w hst) | (refine ktm hst ta25 rfl rfl ?_; clear hst; intro w hst)); (try simp only [pz, pn, sz, sc, hw]); refine re ?_
  refine rd_ ?_
  all_goals
    go_wp2_with ((first | (refine kb 3 hst rfl rfl ?_; clear hst; intro b3 w hb3 hst) | (refine kl hst ta25 rfl ?_) | (refine klm hst ta25 rfl ?_) | (refine kc hst tc3 rfl ?_) | (refine wl_slice1 (o := ⟨some 10, _, _, _, _, _⟩) hst ts145 te23 rfl rfl (by (simp only [eval_lit, eval_k, eval_f, eval_g, List.getD_cons_succ, List.getD_cons_zero]) <;> rfl) (by rfl) ?_; clear hst; intro b10 w hb10 hst) | (refine kS 12 hst ts162_ (tw25_3 _ _ _) rfl rfl ?_; clear hst; intro b12 w hb12 hst) | (refine kt hst ta25 rfl rfl ?_; clear hst; intro w hst) | (refine ktm hst ta25 rfl rfl ?_; clear hst; intro w hst)); try simp only [pz, pn, sz, sc])
    exact bp_t rfl rfl (by rfl) (GivesT.of hst rfl (by simp))

theorem dvL_le (n d j : Nat) : dvL n d j ≤ n := Nat.mod_le _ _
theorem dvQ_lt (n d j : Nat) (hd : 0 < d) (hn : n < d * 2 ^ 128) : dvQ n d j < 2 ^ 128 := by
  unfold dvQ
  rw [Nat.div_lt_iff_lt_mul (Nat.mul_pos hd (Nat.pow_pos (by omega)))]
  have : d * 2 ^ 128 ≤ 2 ^ 128 * (d * 2 ^ j) := by
    rw [Nat.mul_comm (2 ^ 128)]
    exact Nat.mul_le_mul_right _ (Nat.le_mul_of_pos_right _ (Nat.pow_pos (by omega)))
  omega

set_option maxHeartbeats 8000000 in
theorem radix2_run (n d c1 c2 : Nat) (hd0 : 0 < d) (hd : d < 2 ^ 120) (hn : n < d * 2 ^ 128) (hnM : n < M) (E1 E2 : TypeId) (hne : c2 ≠ c1) (w0 : World) (h1 : w0.heap[c1]? = some (.cells (wc 8 0) E1)) (h2 : w0.heap[c2]? = some (.cells (wc 8 0) E2)) :
    GivesT Tryz.prog 83 #[W n, W d, .func (.func 84) #[] #[.pointer (some ⟨c1, 0, none⟩), .pointer (some ⟨c2, 0, none⟩)]] (.tuple #[]) [(c1, .cells (wc 8 0) E1), (c2, .cells (wc 8 0) E2)] [(c1, .cells (wc 8 (n / d)) E1), (c2, .cells (wc 8 (n % d)) E2)] w0 := by
  have hst := Swap.two hne h1 h2 [c1, c2]
  have hs1 := lt_of_some h1
  have hs2 := lt_of_some h2
  have hstep := Lib.hid (fun j => dv_step n d j hd0)
  have hLn := Lib.hid (fun j => dvL_le n d j)
  have hQ := Lib.hid (fun j => dvQ_lt n d j hd0 hn)
  have htop := Lib.hid (dv_top n d hn)
  have hend := dv_end n d
  have hd' := Lib.hid hd
  have hnM' := Lib.hid hnM
  clear h1 h2 hd hn hnM
  go_enter Tryz.func83, Tryz.ntmps83
  go_wp2_with ((first | (refine kb 3 hst rfl rfl ?_; clear hst; intro b3 w hb3 hst) | (refine kb 4 hst rfl rfl ?_; clear hst; intro b4 w hb4 hst) | (refine kl hst ta25 rfl ?_) | (refine klm hst ta25 rfl ?_) | (refine ka 6 hst tz25 rfl rfl ?_; clear hst; intro b6 w hb6 hst) | (refine kt hst ta25 rfl rfl ?_; clear hst; intro w hst) | (refine ktm hst ta25 rfl rfl ?_; clear hst; intro w hst) | (refine kB (tb150_1 _) rfl ?_) | (refine ka 8 hst tz150 rfl rfl ?_; clear hst; intro b8 w hb8 hst) | (refine kt hst ta150 rfl rfl ?_; clear hst; intro w hst) | (refine ktm hst ta150 rfl rfl ?_; clear hst; intro w hst) | (refine ka 9 hst tz25 rfl rfl ?_; clear hst; intro b9 w hb9 hst) | (refine kB (tb150_01 _ _) rfl ?_) | (refine kl hst ta150 rfl ?_) | (refine klm hst ta150 rfl ?_)); try simp only [pz, pn, sz, sc])
  go_step3
  go_wp2_with ((first | (refine kb 3 hst rfl rfl ?_; clear hst; intro b3 w hb3 hst) | (refine kb 4 hst rfl rfl ?_; clear hst; intro b4 w hb4 hst) | (refine kl hst ta25 rfl ?_) | (refine klm hst ta25 rfl ?_) | (refine ka 6 hst tz25 rfl rfl ?_; clear hst; intro b6 w hb6 hst) | (refine kt hst ta25 rfl rfl ?_; clear hst; intro w hst) | (refine ktm hst ta25 rfl rfl ?_; clear hst; intro w hst) | (refine kB (tb150_1 _) rfl ?_) | (refine ka 8 hst tz150 rfl rfl ?_; clear hst; intro b8 w hb8 hst) | (refine kt hst ta150 rfl rfl ?_; clear hst; intro w hst) | (refine ktm hst ta150 rfl rfl ?_; clear hst; intro w hst) | (refine ka 9 hst tz25 rfl rfl ?_; clear hst; intro b9 w hb9 hst) | (refine kB (tb150_01 _ _) rfl ?_) | (refine kl hst ta150 rfl ?_) | (refine klm hst ta150 rfl ?_)); try simp only [pz, pn, sz, sc])
  go_step3
  go_wp2_with ((first | (refine kb 3 hst rfl rfl ?_; clear hst; intro b3 w hb3 hst) | (refine kb 4 hst rfl rfl ?_; clear hst; intro b4 w hb4 hst) | (refine kl hst ta25 rfl ?_) | (refine klm hst ta25 rfl ?_) | (refine ka 6 hst tz25 rfl rfl ?_; clear hst; intro b6 w hb6 hst) | (refine kt hst ta25 rfl rfl ?_; clear hst; intro w hst) | (refine ktm hst ta25 rfl rfl ?_; clear hst; intro w hst) | (refine kB (tb150_1 _) rfl ?_) | (refine ka 8 hst tz150 rfl rfl ?_; clear hst; intro b8 w hb8 hst) | (refine kt hst ta150 rfl rfl ?_; clear hst; intro w hst) | (refine ktm hst ta150 rfl rfl ?_; clear hst; intro w hst) | (refine ka 9 hst tz25 rfl rfl ?_; clear hst; intro b9 w hb9 hst) | (refine kB (tb150_01 _ _) rfl ?_) | (refine kl hst ta150 rfl ?_) | (refine klm hst ta150 rfl ?_)); try simp only [pz, pn, sz, sc])
  go_loopw [7] (fun vi wr => ∃ (j rr : Nat), j ≤ 128 ∧ vi = .int .i64 ((j : Int) - 1) ∧ (j ≠ 128 → rr = dvL n d j) ∧
    St w0 [c1, c2] [(b6, .cells (wc 8 (dvL n d j)) 25), (b4, .cells (wc 8 d) 25), (c1, .cells (wc 8 (dvQ n d j)) E1), (c2, .cells (wc 8 rr) E2)] wr) (fun vi _ => (intOf vi + 1).toNat)
  case atStart => exact ⟨128, 0, by omega, rfl, fun h => absurd rfl h, by rw [htop.out.1, htop.out.2]; exact hst.sub (by repeat (first | exact List.Sublist.refl _ | exact List.nil_sublist _ | refine List.Sublist.cons_cons _ ?_ | refine List.Sublist.cons _ ?_))⟩
  case round =>
    clear hst
    obtain ⟨j, rr, hj, rfl, hrr, hst⟩ := hrel
    by_cases hlt : 0 < j
    · obtain ⟨i, rfl⟩ : ∃ i, j = i + 1 := ⟨j - 1, by omega⟩
      obtain ⟨iv, hiv⟩ : ∃ iv : Int, iv = ((i + 1 : Nat) : Int) - 1 := ⟨_, rfl⟩
      rw [← hiv]
      have h0 : (0 : Int) ≤ iv := by omega
      have hiv' := Lib.hid hiv
      have hdM : d < M := small_M (by have := hd'.out; omega)
      have hp : d * 2 ^ i < 2 ^ 248 := by
        have a := Nat.mul_le_mul (Nat.le_of_lt hd'.out) (Nat.pow_le_pow_right (show 0 < 2 by omega) (show i ≤ 127 by omega))
        exact Nat.lt_of_le_of_lt a (by decide)
      have hpM : d * 2 ^ i < M := small_M (by omega)
      have hshl := wide_Shl d (i : Nat) hdM
      rw [clampN_nat _ (by omega), Nat.mod_eq_of_lt hpM, show (i : Int) = iv by omega] at hshl
      have hlM : dvL n d (i + 1) < M := Nat.lt_of_le_of_lt (hLn.out _) hnM'.out
      have hsub := wide_Sub (dvL n d (i + 1)) (d * 2 ^ i) hlM hpM
      have hqM : 2 * dvQ n d (i + 1) + 1 < M := small_M (by have := hQ.out (i + 1); omega)
      have hs := hstep.out i
      have hcb := fun dg l (hdg : dg ≤ 1) w q1 q2 => radix2_Divide_1 dg l (dvQ n d (i + 1)) rr c1 c2 hdg hqM E1 E2 hne w q1 q2
      have hgf := gf84
      clear hp hdM hqM hrr hiv
      by_cases hlo : dvL n d (i + 1) < d * 2 ^ i
      · obtain ⟨e1, e2⟩ := hs.1 hlo
        rw [decide_eq_true hlo] at hsub
        have hc := hcb 0 (dvL n d (i + 1)) (by omega)
        rw [Nat.add_zero, ← e1] at hc
        have e2' := Lib.hid e2
        have z1 := stp_size 0 (dvL n d (i + 1))
        have z2 := stp_one 0 (dvL n d (i + 1))
        unfold stpC at hc
        rw [show ((0 : Nat) : Int) = 0 from rfl] at hc
        clear hs hlo e1 e2 hcb hpM hlM
        generalize d * 2 ^ i = t at *
        generalize (dvL n d (i + 1) + M - t) % M = u at *
        go_wp2_with ((first | (refine kb 3 hst rfl rfl ?_; clear hst; intro b3 w hb3 hst) | (refine kb 4 hst rfl rfl ?_; clear hst; intro b4 w hb4 hst) | (refine kl hst ta25 rfl ?_) | (refine klm hst ta25 rfl ?_) | (refine ka 6 hst tz25 rfl rfl ?_; clear hst; intro b6 w hb6 hst) | (refine kt hst ta25 rfl rfl ?_; clear hst; intro w hst) | (refine ktm hst ta25 rfl rfl ?_; clear hst; intro w hst) | (refine kB (tb150_1 _) rfl ?_) | (refine ka 8 hst tz150 rfl rfl ?_; clear hst; intro b8 w hb8 hst) | (refine kt hst ta150 rfl rfl ?_; clear hst; intro w hst) | (refine ktm hst ta150 rfl rfl ?_; clear hst; intro w hst) | (refine ka 9 hst tz25 rfl rfl ?_; clear hst; intro b9 w hb9 hst) | (refine kB (tb150_01 _ _) rfl ?_) | (refine kl hst ta150 rfl ?_) | (refine klm hst ta150 rfl ?_)); try simp only [pz, pn, sz, sc])
        refine wp_region_T 9  hst (by kernel_rfl) ?_; clear hst; intro w hst; (try dsimp only [List.length_cons, List.length_nil]); (try simp only [List.length_cons, List.length_nil, Nat.reduceAdd, Array.replicate_succ, Array.replicate_zero, List.push_toArray, List.nil_append, List.cons_append])
        refine r0 2 ?_; simp only [pz, pn, sz, sc]
        refine rl 0 rfl ?_ (by first | exact ylA ta25 | exact ylM ta25); simp only [pz, pn, sz, sc]
        refine rl 1 rfl ?_ (by first | exact ylA ta25 | exact ylM ta25); simp only [pz, pn, sz, sc]
        refine r2 3 8 ?_ ?_
        (first | (refine kf gf92 hst (hshl) rfl rfl rfl rfl ?_; clear hst; intro w hst) | (refine kf gf93 hst (hsub) rfl rfl rfl rfl ?_; clear hst; intro w hst) | (refine kp ?_)); (try simp only [pz, pn, sz, sc]); refine re ?_
        refine r2 4 8 ?_ ?_
        (first | (refine kf gf92 hst (hshl) rfl rfl rfl rfl ?_; clear hst; intro w hst) | (refine kf gf93 hst (hsub) rfl rfl rfl rfl ?_; clear hst; intro w hst) | (refine kp ?_)); (try simp only [pz, pn, sz, sc]); refine re ?_
        refine r0 5 ?_; simp only [pz, pn, sz, sc]
        refine r0 6 ?_; simp only [pz, pn, sz, sc]
        refine r0 7 ?_; simp only [pz, pn, sz, sc]
        refine r1 8 ?_; (refine ka 9 hst tz25 rfl rfl ?_; clear hst; intro b9 w hb9 hst); (try simp only [pz, pn, sz, sc]); refine re ?_
        refine r1 9 ?_; (first | (refine kt hst ta25 rfl rfl ?_; clear hst; intro w hst) | (refine ktm hst ta25 rfl rfl ?_; clear hst; intro w hst)); (try simp only [pz, pn, sz, sc]); refine re ?_
        refine r0 10 ?_; simp only [pz, pn, sz, sc]
        refine rd_ ?_
        rotate_left 1
        (refine ka 9 hst tz25 rfl rfl ?_; clear hst; intro b9 w hb9 hst); (try simp only [pz, pn, sz, sc]); refine re ?_
        refine r1 4 ?_; (first | (refine kf gf92 hst (hshl) rfl rfl rfl rfl ?_; clear hst; intro w hst) | (refine kf gf93 hst (hsub) rfl rfl rfl rfl ?_; clear hst; intro w hst) | (refine kp ?_)); (try simp only [pz, pn, sz, sc]); refine re ?_
        refine r0 5 ?_; simp only [pz, pn, sz, sc]
        refine r0 6 ?_; simp only [pz, pn, sz, sc]
        refine r0 7 ?_; simp only [pz, pn, sz, sc]
        refine r1 9 ?_; (first | (refine kt hst ta25 rfl rfl ?_; clear hst; intro w hst) | (refine ktm hst ta25 rfl rfl ?_; clear hst; intro w hst)); (try simp only [pz, pn, sz, sc]); refine re ?_
        refine r0 10 ?_; simp only [pz, pn, sz, sc]
        refine rd_ ?_
        rotate_right 1
        rotate_left 2
        (refine ka 9 hst tz25 rfl rfl ?_; clear hst; intro b9 w hb9 hst); (try simp only [pz, pn, sz, sc]); refine re ?_
        refine r1 3 ?_; (first | (refine kf gf92 hst (hshl) rfl rfl rfl rfl ?_; clear hst; intro w hst) | (refine kf gf93 hst (hsub) rfl rfl rfl rfl ?_; clear hst; intro w hst) | (refine kp ?_)); (try simp only [pz, pn, sz, sc]); refine re ?_
        refine r1 4 ?_; (first | (refine kf gf92 hst (hshl) rfl rfl rfl rfl ?_; clear hst; intro w hst) | (refine kf gf93 hst (hsub) rfl rfl rfl rfl ?_; clear hst; intro w hst) | (refine kp ?_)); (try simp only [pz, pn, sz, sc]); refine re ?_
        refine r0 5 ?_; simp only [pz, pn, sz, sc]
        refine r0 6 ?_; simp only [pz, pn, sz, sc]
        refine r0 7 ?_; simp only [pz, pn, sz, sc]
        refine r1 9 ?_; (first | (refine kt hst ta25 rfl rfl ?_; clear hst; intro w hst) | (refine ktm hst ta25 rfl rfl ?_; clear hst; intro w hst)); (try simp only [pz, pn, sz, sc]); refine re ?_
        refine r0 10 ?_; simp only [pz, pn, sz, sc]
        refine rd_ ?_
        rotate_right 2
        all_goals
          go_wp2_with ((first | (refine kT hgf hst (fun w hst => hc w (hst.own _ _ (by repeat (first | exact List.Mem.head _ | refine List.Mem.tail _ ?_))) (hst.own _ _ (by repeat (first | exact List.Mem.head _ | refine List.Mem.tail _ ?_)))) rfl rfl rfl rfl ?_; clear hst; intro w hst) | (refine kb 3 hst rfl rfl ?_; clear hst; intro b3 w hb3 hst) | (refine kb 4 hst rfl rfl ?_; clear hst; intro b4 w hb4 hst) | (refine kl hst ta25 rfl ?_) | (refine klm hst ta25 rfl ?_) | (refine ka 6 hst tz25 rfl rfl ?_; clear hst; intro b6 w hb6 hst) | (refine kt hst ta25 rfl rfl ?_; clear hst; intro w hst) | (refine ktm hst ta25 rfl rfl ?_; clear hst; intro w hst) | (refine kB (tb150_1 _) rfl ?_) | (refine ka 8 hst tz150 rfl rfl ?_; clear hst; intro b8 w hb8 hst) | (refine kt hst ta150 rfl rfl ?_; clear hst; intro w hst) | (refine ktm hst ta150 rfl rfl ?_; clear hst; intro w hst) | (refine ka 9 hst tz25 rfl rfl ?_; clear hst; intro b9 w hb9 hst) | (refine kB (tb150_01 _ _) rfl ?_) | (refine kl hst ta150 rfl ?_) | (refine klm hst ta150 rfl ?_)); try simp only [pz, pn, sz, sc])
          have hwv : wrap64 (iv - 1) = (i : Int) - 1 := by
            have := hiv'.out
            rw [show iv - 1 = (i : Int) - 1 by omega]
            first | (unfold wrap64; omega) | (simp [wrap64]; omega)
          rw [hwv]
          refine ⟨⟨i, dvL n d i, by omega, rfl, fun _ => rfl, ?_⟩, by have := hiv'.out; simp [intOf]; omega⟩
          rw [e2'.out]
          exact hst.sub (by repeat (first | exact List.Sublist.refl _ | exact List.nil_sublist _ | refine List.Sublist.cons_cons _ ?_ | refine List.Sublist.cons _ ?_))
      · obtain ⟨e1, e2⟩ := hs.2 hlo
        rw [decide_eq_false hlo] at hsub
        have hu : (dvL n d (i + 1) + M - d * 2 ^ i) % M = dvL n d i := by
          rw [e2, show dvL n d (i + 1) + M - d * 2 ^ i = dvL n d (i + 1) - d * 2 ^ i + M by omega, Nat.add_mod_right, Nat.mod_eq_of_lt (by omega)]
        rw [hu] at hsub
        have hc := hcb 1 (dvL n d i) (by omega)
        rw [← e1] at hc
        have z1 := stp_size 0 (dvL n d (i + 1))
        have z2 := stp_one 0 (dvL n d (i + 1))
        have z3 := stp_size 1 (dvL n d i)
        have z4 := stp_one 1 (dvL n d i)
        unfold stpC at hc
        rw [show ((1 : Nat) : Int) = 1 from rfl] at hc
        clear hs hlo e1 e2 hcb hpM hlM hu
        generalize d * 2 ^ i = t at *
        go_wp2_with ((first | (refine kb 3 hst rfl rfl ?_; clear hst; intro b3 w hb3 hst) | (refine kb 4 hst rfl rfl ?_; clear hst; intro b4 w hb4 hst) | (refine kl hst ta25 rfl ?_) | (refine klm hst ta25 rfl ?_) | (refine ka 6 hst tz25 rfl rfl ?_; clear hst; intro b6 w hb6 hst) | (refine kt hst ta25 rfl rfl ?_; clear hst; intro w hst) | (refine ktm hst ta25 rfl rfl ?_; clear hst; intro w hst) | (refine kB (tb150_1 _) rfl ?_) | (refine ka 8 hst tz150 rfl rfl ?_; clear hst; intro b8 w hb8 hst) | (refine kt hst ta150 rfl rfl ?_; clear hst; intro w hst) | (refine ktm hst ta150 rfl rfl ?_; clear hst; intro w hst) | (refine ka 9 hst tz25 rfl rfl ?_; clear hst; intro b9 w hb9 hst) | (refine kB (tb150_01 _ _) rfl ?_) | (refine kl hst ta150 rfl ?_) | (refine klm hst ta150 rfl ?_)); try simp only [pz, pn, sz, sc])
        refine wp_region_T 9  hst (by kernel_rfl) ?_; clear hst; intro w hst; (try dsimp only [List.length_cons, List.length_nil]); (try simp only [List.length_cons, List.length_nil, Nat.reduceAdd, Array.replicate_succ, Array.replicate_zero, List.push_toArray, List.nil_append, List.cons_append])
        refine r0 2 ?_; simp only [pz, pn, sz, sc]
        refine rl 0 rfl ?_ (by first | exact ylA ta25 | exact ylM ta25); simp only [pz, pn, sz, sc]
        refine rl 1 rfl ?_ (by first | exact ylA ta25 | exact ylM ta25); simp only [pz, pn, sz, sc]
        refine r2 3 8 ?_ ?_
        (first | (refine kf gf92 hst (hshl) rfl rfl rfl rfl ?_; clear hst; intro w hst) | (refine kf gf93 hst (hsub) rfl rfl rfl rfl ?_; clear hst; intro w hst) | (refine kp ?_)); (try simp only [pz, pn, sz, sc]); refine re ?_
        refine r2 4 8 ?_ ?_
        (first | (refine kf gf92 hst (hshl) rfl rfl rfl rfl ?_; clear hst; intro w hst) | (refine kf gf93 hst (hsub) rfl rfl rfl rfl ?_; clear hst; intro w hst) | (refine kp ?_)); (try simp only [pz, pn, sz, sc]); refine re ?_
        refine r0 5 ?_; simp only [pz, pn, sz, sc]
        refine r0 6 ?_; simp only [pz, pn, sz, sc]
        refine r0 7 ?_; simp only [pz, pn, sz, sc]
        refine r1 8 ?_; (refine ka 9 hst tz25 rfl rfl ?_; clear hst; intro b9 w hb9 hst); (try simp only [pz, pn, sz, sc]); refine re ?_
        refine r1 9 ?_; (first | (refine kt hst ta25 rfl rfl ?_; clear hst; intro w hst) | (refine ktm hst ta25 rfl rfl ?_; clear hst; intro w hst)); (try simp only [pz, pn, sz, sc]); refine re ?_
        refine r0 10 ?_; simp only [pz, pn, sz, sc]
        refine rd_ ?_
        rotate_left 1
        (refine ka 9 hst tz25 rfl rfl ?_; clear hst; intro b9 w hb9 hst); (try simp only [pz, pn, sz, sc]); refine re ?_
        refine r1 4 ?_; (first | (refine kf gf92 hst (hshl) rfl rfl rfl rfl ?_; clear hst; intro w hst) | (refine kf gf93 hst (hsub) rfl rfl rfl rfl ?_; clear hst; intro w hst) | (refine kp ?_)); (try simp only [pz, pn, sz, sc]); refine re ?_
        refine r0 5 ?_; simp only [pz, pn, sz, sc]
        refine r0 6 ?_; simp only [pz, pn, sz, sc]
        refine r0 7 ?_; simp only [pz, pn, sz, sc]
        refine r1 9 ?_; (first | (refine kt hst ta25 rfl rfl ?_; clear hst; intro w hst) | (refine ktm hst ta25 rfl rfl ?_; clear hst; intro w hst)); (try simp only [pz, pn, sz, sc]); refine re ?_
        refine r0 10 ?_; simp only [pz, pn, sz, sc]
        refine rd_ ?_
        rotate_right 1
        rotate_left 2
        (refine ka 9 hst tz25 rfl rfl ?_; clear hst; intro b9 w hb9 hst); (try simp only [pz, pn, sz, sc]); refine re ?_
        refine r1 3 ?_; (first | (refine kf gf92 hst (hshl) rfl rfl rfl rfl ?_; clear hst; intro w hst) | (refine kf gf93 hst (hsub) rfl rfl rfl rfl ?_; clear hst; intro w hst) | (refine kp ?_)); (try simp only [pz, pn, sz, sc]); refine re ?_
        refine r1 4 ?_; (first | (refine kf gf92 hst (hshl) rfl rfl rfl rfl ?_; clear hst; intro w hst) | (refine kf gf93 hst (hsub) rfl rfl rfl rfl ?_; clear hst; intro w hst) | (refine kp ?_)); (try simp only [pz, pn, sz, sc]); refine re ?_
        refine r0 5 ?_; simp only [pz, pn, sz, sc]
        refine r0 6 ?_; simp only [pz, pn, sz, sc]
        refine r0 7 ?_; simp only [pz, pn, sz, sc]
        refine r1 9 ?_; (first | (refine kt hst ta25 rfl rfl ?_; clear hst; intro w hst) | (refine ktm hst ta25 rfl rfl ?_; clear hst; intro w hst)); (try simp only [pz, pn, sz, sc]); refine re ?_
        refine r0 10 ?_; simp only [pz, pn, sz, sc]
        refine rd_ ?_
        rotate_right 2
        all_goals
          go_wp2_with ((first | (refine kT hgf hst (fun w hst => hc w (hst.own _ _ (by repeat (first | exact List.Mem.head _ | refine List.Mem.tail _ ?_))) (hst.own _ _ (by repeat (first | exact List.Mem.head _ | refine List.Mem.tail _ ?_)))) rfl rfl rfl rfl ?_; clear hst; intro w hst) | (refine kb 3 hst rfl rfl ?_; clear hst; intro b3 w hb3 hst) | (refine kb 4 hst rfl rfl ?_; clear hst; intro b4 w hb4 hst) | (refine kl hst ta25 rfl ?_) | (refine klm hst ta25 rfl ?_) | (refine ka 6 hst tz25 rfl rfl ?_; clear hst; intro b6 w hb6 hst) | (refine kt hst ta25 rfl rfl ?_; clear hst; intro w hst) | (refine ktm hst ta25 rfl rfl ?_; clear hst; intro w hst) | (refine kB (tb150_1 _) rfl ?_) | (refine ka 8 hst tz150 rfl rfl ?_; clear hst; intro b8 w hb8 hst) | (refine kt hst ta150 rfl rfl ?_; clear hst; intro w hst) | (refine ktm hst ta150 rfl rfl ?_; clear hst; intro w hst) | (refine ka 9 hst tz25 rfl rfl ?_; clear hst; intro b9 w hb9 hst) | (refine kB (tb150_01 _ _) rfl ?_) | (refine kl hst ta150 rfl ?_) | (refine klm hst ta150 rfl ?_)); try simp only [pz, pn, sz, sc])
          have hwv : wrap64 (iv - 1) = (i : Int) - 1 := by
            have := hiv'.out
            rw [show iv - 1 = (i : Int) - 1 by omega]
            first | (unfold wrap64; omega) | (simp [wrap64]; omega)
          rw [hwv]
          refine ⟨⟨i, dvL n d i, by omega, rfl, fun _ => rfl, ?_⟩, by have := hiv'.out; simp [intOf]; omega⟩
          exact hst.sub (by repeat (first | exact List.Sublist.refl _ | exact List.nil_sublist _ | refine List.Sublist.cons_cons _ ?_ | refine List.Sublist.cons _ ?_))
    · obtain rfl : j = 0 := by omega
      have h0 : ¬ (0 : Int) ≤ ((0 : Nat) : Int) - 1 := by omega
      have hr0 := hrr (by omega)
      subst hr0
      rw [hend.1, hend.2] at hst
      go_wp2_with ((first | (refine kb 3 hst rfl rfl ?_; clear hst; intro b3 w hb3 hst) | (refine kb 4 hst rfl rfl ?_; clear hst; intro b4 w hb4 hst) | (refine kl hst ta25 rfl ?_) | (refine klm hst ta25 rfl ?_) | (refine ka 6 hst tz25 rfl rfl ?_; clear hst; intro b6 w hb6 hst) | (refine kt hst ta25 rfl rfl ?_; clear hst; intro w hst) | (refine ktm hst ta25 rfl rfl ?_; clear hst; intro w hst) | (refine kB (tb150_1 _) rfl ?_) | (refine ka 8 hst tz150 rfl rfl ?_; clear hst; intro b8 w hb8 hst) | (refine kt hst ta150 rfl rfl ?_; clear hst; intro w hst) | (refine ktm hst ta150 rfl rfl ?_; clear hst; intro w hst) | (refine ka 9 hst tz25 rfl rfl ?_; clear hst; intro b9 w hb9 hst) | (refine kB (tb150_01 _ _) rfl ?_) | (refine kl hst ta150 rfl ?_) | (refine klm hst ta150 rfl ?_)); try simp only [pz, pn, sz, sc])
      exact bp_0 rfl rfl (GivesT.of hst rfl (by simp))

end Go.Proofs.YtggchelniblipaaGreat.Rd
