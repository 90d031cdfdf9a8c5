/- A number rounded to a format (plain): by the program's road and by the reference's. -/
import Derived.Test.YtefpoconpeggpaaGreatDoorL18
import Derived.Test.YtefpoconpeggpaaGreatDoorL12
import Derived.Test.YtefpoconpeggpaaGreatDoorL10
namespace Go.Proofs.YtefpoconpeggpaaGreatDoor.Rd
open Go Go.RowKit
set_option linter.unusedVariables false
set_option linter.unusedSimpArgs false
set_option maxRecDepth 100000

theorem sum2_of (x y : Nat) (hx : x < M) (hy : y < M) (hs : x + y < M) : ∀ b w, w.heap[b]? = some (.cells (wcs [x, y]) 44 (0, 0)) → GivesAt Tryz.prog 72 #[.slice (some ⟨b, 0, none⟩) 2 2] (W (x + y)) w := fun b w h => by
  have := prod_Sum [x, y] b 2 44 (0, 0) (by intro z hz; simp at hz; rcases hz with rfl | rfl <;> assumption) (by simp) w h
  rwa [show [x, y].sum % M = x + y by rw [show [x, y].sum = x + y by simp, Nat.mod_eq_of_lt hs]] at this

set_option maxHeartbeats 4000000 in
theorem nroot_three (a : Nat) (ha : a ≤ 3 * R) : Gives Tryz.prog 255 #[W a] (W (3 * R - a)) := by
  intro w0
  have hst := St.start [] w0
  have hR3 : 3 * R < M := small_M (by decide)
  have p1 := wide_Power 161
  rw [show pow2 161 = 2 * R by decide] at p1
  have p2 := wide_Power 160
  rw [show pow2 160 = R by decide] at p2
  have hs := sum2_of (2 * R) R (by omega) (by omega) (by omega)
  have hsub := wide_Sub (2 * R + R) a (by omega) (by omega)
  rw [show (2 * R + R + M - a) % M = 3 * R - a by rw [show 2 * R + R + M - a = 3 * R - a + M by omega, Nat.add_mod_right, Nat.mod_eq_of_lt (by omega)]] at hsub
  generalize 3 * R - a = z at *
  generalize 2 * R + R = x1 at *
  generalize 2 * R = x2 at *
  generalize R = x3 at *
  clear ha hR3
  go_enter Tryz.func255, Tryz.ntmps255
  go_wp2_with ((first | (refine kb 1 hst rfl rfl ?_; clear hst; intro b1 w hb1 hst) | (refine ka 2 hst tz44 rfl rfl ?_; clear hst; intro b2 w hb2 hst)); try simp only [pz, pn, sz, sc])
  refine wp_region_T 10  hst (by kernel_rfl) ?_; clear hst; intro w hst; (try simp only [List.length_cons, List.length_nil, Nat.reduceAdd, Array.replicate_succ, Array.replicate_zero, List.push_toArray, List.nil_append, List.cons_append])
  refine rl 4 rfl ?_ (by first | exact ylA ta44 | exact ylM ta44); simp only [pz, pn, sz, sc]
  refine r2 0 9 ?_ ?_
  (refine kf gf127 hst (p1) rfl rfl rfl rfl ?_; clear hst; intro w hst); (try simp only [pz, pn, sz, sc]); refine re ?_
  refine r2 1 9 ?_ ?_
  (refine kf gf127 hst (p2) rfl rfl rfl rfl ?_; clear hst; intro w hst); (try simp only [pz, pn, sz, sc]); refine re ?_
  refine r2 2 9 ?_ ?_
  (refine kS 8 hst ts162_ (tw44_2 _ _) rfl rfl ?_; clear hst; intro b8 w hb8 hst); (try simp only [pz, pn, sz, sc]); refine re ?_
  refine r2 3 9 ?_ ?_
  (refine kg gf72 hst (fun w hst => hs _ w (hst.own _ _ (by simp))) rfl rfl rfl rfl ?_; clear hst; intro w hst); (try simp only [pz, pn, sz, sc]); refine re ?_
  refine r2 5 9 ?_ ?_
  (refine kf gf122 hst (hsub) rfl rfl rfl rfl ?_; clear hst; intro w hst); (try simp only [pz, pn, sz, sc]); refine re ?_
  refine r0 6 ?_; simp only [pz, pn, sz, sc]
  refine r0 7 ?_; simp only [pz, pn, sz, sc]
  refine r0 8 ?_; simp only [pz, pn, sz, sc]
  refine r1 9 ?_; (refine ka 3 hst tz44 rfl rfl ?_; clear hst; intro b3 w hb3 hst); (try simp only [pz, pn, sz, sc]); refine re ?_
  refine r1 10 ?_; (refine kt hst ta44 rfl rfl ?_; clear hst; intro w hst); (try simp only [pz, pn, sz, sc]); refine re ?_
  refine r0 11 ?_; simp only [pz, pn, sz, sc]
  refine rd_ ?_
  rotate_left 1
  (refine ka 3 hst tz44 rfl rfl ?_; clear hst; intro b3 w hb3 hst); (try simp only [pz, pn, sz, sc]); refine re ?_
  refine r1 5 ?_; (refine kf gf122 hst (hsub) rfl rfl rfl rfl ?_; clear hst; intro w hst); (try simp only [pz, pn, sz, sc]); refine re ?_
  refine r0 6 ?_; simp only [pz, pn, sz, sc]
  refine r0 7 ?_; simp only [pz, pn, sz, sc]
  refine r0 8 ?_; simp only [pz, pn, sz, sc]
  refine r1 10 ?_; (refine kt hst ta44 rfl rfl ?_; clear hst; intro w hst); (try simp only [pz, pn, sz, sc]); refine re ?_
  refine r0 11 ?_; simp only [pz, pn, sz, sc]
  refine rd_ ?_
  rotate_right 1
  rotate_left 2
  (refine ka 3 hst tz44 rfl rfl ?_; clear hst; intro b3 w hb3 hst); (try simp only [pz, pn, sz, sc]); refine re ?_
  refine r1 3 ?_; (refine kg gf72 hst (fun w hst => hs _ w (hst.own _ _ (by simp))) rfl rfl rfl rfl ?_; clear hst; intro w hst); (try simp only [pz, pn, sz, sc]); refine re ?_
  refine r1 5 ?_; (refine kf gf122 hst (hsub) rfl rfl rfl rfl ?_; clear hst; intro w hst); (try simp only [pz, pn, sz, sc]); refine re ?_
  refine r0 6 ?_; simp only [pz, pn, sz, sc]
  refine r0 7 ?_; simp only [pz, pn, sz, sc]
  refine r0 8 ?_; simp only [pz, pn, sz, sc]
  refine r1 10 ?_; (refine kt hst ta44 rfl rfl ?_; clear hst; intro w hst); (try simp only [pz, pn, sz, sc]); refine re ?_
  refine r0 11 ?_; simp only [pz, pn, sz, sc]
  refine rd_ ?_
  rotate_right 2
  rotate_left 3
  (refine ka 3 hst tz44 rfl rfl ?_; clear hst; intro b3 w hb3 hst); (try simp only [pz, pn, sz, sc]); refine re ?_
  refine r1 2 ?_; (refine kS 8 hst ts162_ (tw44_2 _ _) rfl rfl ?_; clear hst; intro b8 w hb8 hst); (try simp only [pz, pn, sz, sc]); refine re ?_
  refine r1 3 ?_; (refine kg gf72 hst (fun w hst => hs _ w (hst.own _ _ (by simp))) rfl rfl rfl rfl ?_; clear hst; intro w hst); (try simp only [pz, pn, sz, sc]); refine re ?_
  refine r1 5 ?_; (refine kf gf122 hst (hsub) rfl rfl rfl rfl ?_; clear hst; intro w hst); (try simp only [pz, pn, sz, sc]); refine re ?_
  refine r0 6 ?_; simp only [pz, pn, sz, sc]
  refine r0 7 ?_; simp only [pz, pn, sz, sc]
  refine r0 8 ?_; simp only [pz, pn, sz, sc]
  refine r1 10 ?_; (refine kt hst ta44 rfl rfl ?_; clear hst; intro w hst); (try simp only [pz, pn, sz, sc]); refine re ?_
  refine r0 11 ?_; simp only [pz, pn, sz, sc]
  refine rd_ ?_
  rotate_right 3
  rotate_left 4
  (refine ka 3 hst tz44 rfl rfl ?_; clear hst; intro b3 w hb3 hst); (try simp only [pz, pn, sz, sc]); refine re ?_
  refine r1 1 ?_; (refine kf gf127 hst (p2) rfl rfl rfl rfl ?_; clear hst; intro w hst); (try simp only [pz, pn, sz, sc]); refine re ?_
  refine r1 2 ?_; (refine kS 8 hst ts162_ (tw44_2 _ _) rfl rfl ?_; clear hst; intro b8 w hb8 hst); (try simp only [pz, pn, sz, sc]); refine re ?_
  refine r1 3 ?_; (refine kg gf72 hst (fun w hst => hs _ w (hst.own _ _ (by simp))) rfl rfl rfl rfl ?_; clear hst; intro w hst); (try simp only [pz, pn, sz, sc]); refine re ?_
  refine r1 5 ?_; (refine kf gf122 hst (hsub) rfl rfl rfl rfl ?_; clear hst; intro w hst); (try simp only [pz, pn, sz, sc]); refine re ?_
  refine r0 6 ?_; simp only [pz, pn, sz, sc]
  refine r0 7 ?_; simp only [pz, pn, sz, sc]
  refine r0 8 ?_; simp only [pz, pn, sz, sc]
  refine r1 10 ?_; (refine kt hst ta44 rfl rfl ?_; clear hst; intro w hst); (try simp only [pz, pn, sz, sc]); refine re ?_
  refine r0 11 ?_; simp only [pz, pn, sz, sc]
  refine rd_ ?_
  rotate_right 4
  rotate_left 5
  (refine ka 3 hst tz44 rfl rfl ?_; clear hst; intro b3 w hb3 hst); (try simp only [pz, pn, sz, sc]); refine re ?_
  refine r1 0 ?_; (refine kf gf127 hst (p1) rfl rfl rfl rfl ?_; clear hst; intro w hst); (try simp only [pz, pn, sz, sc]); refine re ?_
  refine r1 1 ?_; (refine kf gf127 hst (p2) rfl rfl rfl rfl ?_; clear hst; intro w hst); (try simp only [pz, pn, sz, sc]); refine re ?_
  refine r1 2 ?_; (refine kS 8 hst ts162_ (tw44_2 _ _) rfl rfl ?_; clear hst; intro b8 w hb8 hst); (try simp only [pz, pn, sz, sc]); refine re ?_
  refine r1 3 ?_; (refine kg gf72 hst (fun w hst => hs _ w (hst.own _ _ (by simp))) rfl rfl rfl rfl ?_; clear hst; intro w hst); (try simp only [pz, pn, sz, sc]); refine re ?_
  refine r1 5 ?_; (refine kf gf122 hst (hsub) rfl rfl rfl rfl ?_; clear hst; intro w hst); (try simp only [pz, pn, sz, sc]); refine re ?_
  refine r0 6 ?_; simp only [pz, pn, sz, sc]
  refine r0 7 ?_; simp only [pz, pn, sz, sc]
  refine r0 8 ?_; simp only [pz, pn, sz, sc]
  refine r1 10 ?_; (refine kt hst ta44 rfl rfl ?_; clear hst; intro w hst); (try simp only [pz, pn, sz, sc]); refine re ?_
  refine r0 11 ?_; simp only [pz, pn, sz, sc]
  refine rd_ ?_
  rotate_right 5
  all_goals
    go_wp2_with ((first | (refine kl hst ta44 rfl ?_) | (refine kt hst ta44 rfl rfl ?_; clear hst; intro w hst)); try simp only [pz, pn, sz, sc])
    refine bp_c rfl rfl (la hst ta44) ⟨?_, hst.keeps⟩
    rfl

theorem of_u64 (v : Nat) (hv : v < B) : ∀ b w, w.heap[b]? = some (.cells (wc 1 v) 22 (0, 0)) → GivesAt Tryz.prog 131 #[.slice (some ⟨b, 0, none⟩) 1 1] (W v) w := fun b w h => by
  have := wide_Of b 0 1 1 1 v 22 (0, 0) (by omega) w h
  rwa [Nat.pow_zero, Nat.div_one, show min 1 8 = 1 from rfl, Nat.mod_eq_of_lt (show v < B ^ 1 by rw [Nat.pow_one]; exact hv)] at this

theorem rguess_le (n : Nat) (h1 : 2 ^ 254 ≤ n) (h2 : n < 2 ^ 256) : rguessAt (n / 2 ^ 249) ≤ 1016 := by
  refine (rguess_table (n / 2 ^ 249) ?_ ?_).2.2
  · rw [Nat.div_lt_iff_lt_mul (by decide)]
    exact Nat.lt_of_lt_of_le h2 (by decide)
  · omega

set_option maxHeartbeats 4000000 in
theorem nroot_seed (br : Nat) (c : Array Value) (hc : RomOk c) (n : Nat) (h1 : 2 ^ 254 ≤ n) (h2 : n < 2 ^ 256) (w0 : World) (hr : w0.heap[br]? = some (.cells c 121)) :
    GivesT Tryz.prog 256 #[.agg #[.pointer (some ⟨br, 0, none⟩)], W n] (W (nrootY n 0)) [(br, .cells c 121)] [(br, .cells romF 121)] w0 := by
  have hst := (St.start [br] w0).add hr (by simp)
  have hg := fun (w : World) (h : w.heap[br]? = some (.cells c 121)) => rom_GuessRoot br c hc n h1 h2 w h
  have hv := rguess_le n h1 h2
  show GivesT _ _ _ (W (rguessAt (n / 2 ^ 249) * 2 ^ 151)) _ _ _
  clear hr hc h1 h2
  generalize rguessAt (n / 2 ^ 249) = v at *
  have hvB : v < B := by rw [B_val]; omega
  have hof := of_u64 v hvB
  have h1' := Lib.hid (wc_1 v hvB)
  have hvM : v < M := small_M (by omega)
  have hshl := wide_Shl v 151 hvM
  rw [show clampN 151 = 151 from rfl, Nat.mod_eq_of_lt (small_M (by omega))] at hshl
  generalize v * 2 ^ 151 = y at *
  generalize romF = cf at *
  go_enter Tryz.func256, Tryz.ntmps256
  go_wp2_with ((first | (refine kT gf259 hst (fun w hst => hg w (hst.own _ _ (by simp))) rfl rfl rfl rfl ?_; clear hst; intro w hst) | (refine kg gf131 hst (fun w hst => hof _ w (by rw [← h1'.out]; exact hst.own _ _ (by simp))) rfl rfl rfl rfl ?_; clear hst; intro w hst) | (refine kf gf48 hst (hshl) rfl rfl rfl rfl ?_; clear hst; intro w hst) | (refine kb 2 hst rfl rfl ?_; clear hst; intro b2 w hb2 hst) | (refine kb 3 hst rfl rfl ?_; clear hst; intro b3 w hb3 hst) | (refine ka 4 hst tz44 rfl rfl ?_; clear hst; intro b4 w hb4 hst) | (refine kc hst tc67 rfl ?_) | (refine kl hst ta44 rfl ?_) | (refine wl_slice1 (o := ⟨some 15, _, _, _, _, _⟩) hst ts123 te22 rfl rfl (by (simp only [eval_lit, eval_k, eval_f, eval_g, List.getD_cons_succ, List.getD_cons_zero]) <;> rfl) (by rfl) ?_; clear hst; intro b15 w hb15 hst) | (refine kt hst ta44 rfl rfl ?_; clear hst; intro w hst)); try simp only [pz, pn, sz, sc])
  first | exact bp_c rfl rfl (la hst ta44) (GivesT.of hst rfl (by simp)) | exact bp_c rfl rfl (la hst ta44) ⟨rfl, hst.keeps, hst.own _ _ (by simp)⟩

theorem pow_sq_M (j k : Nat) (h : j + k < 512) : 2 ^ j * 2 ^ k < M := by
  rw [← Nat.pow_add]
  exact pow_M h
theorem sq_M : 3 * R * (3 * R) < M := by
  have h : 3 * R ≤ 2 ^ 162 := by decide
  exact Nat.lt_of_le_of_lt (Nat.mul_le_mul h h) (pow_sq_M 162 162 (by omega))
theorem rootI_most (n m : Nat) (h1 : 2 ^ 254 ≤ n) (h2 : n < K * K) (hm : m ≤ 5) : nrootY n m ≤ 3 * R ∧ n * (nrootY n m * nrootY n m / R) / (K * K) ≤ 3 * R :=
  rootI_small n _ _ h1 (deltas_le m (by omega)) (nrootY_near n h1 h2 m hm)

set_option maxHeartbeats 4000000 in
theorem nroot_better (n m : Nat) (h1 : 2 ^ 254 ≤ n) (h2 : n < 2 ^ 256) (hm : m ≤ 5) (b1 : Nat) (E1 : TypeId) (w0 : World) (hb : w0.heap[b1]? = some (.cells (wc 8 n) E1)) :
    GivesAt Tryz.prog 254 #[W (nrootY n m), .pointer (some ⟨b1, 0, none⟩)] (W (nrootY n (m + 1))) w0 := by
  have hst := (St.start [] w0).add hb (by simp)
  have hKK : K * K = 2 ^ 256 := by decide
  obtain ⟨q1, q2⟩ := rootI_most n m h1 (by rw [hKK]; exact h2) hm
  show GivesAt _ _ _ (W (nrootY n m * (3 * R - n * (nrootY n m * nrootY n m / R) / (K * K)) / (2 * R))) _
  rw [hKK] at q2 ⊢
  rw [show 2 * R = 2 ^ 161 by decide]
  have hR3 : 3 * R < M := small_M (by decide)
  have hnM : n < M := small_M (by omega)
  have e1 : nrootY n m * nrootY n m / 2 ^ 160 < M := by
    refine Nat.lt_of_le_of_lt (Nat.div_le_self _ _) (Nat.lt_of_le_of_lt (Nat.mul_le_mul q1 q1) ?_)
    exact sq_M
  have t1 := fix_Times (nrootY n m) (nrootY n m) 160 (by omega) (by omega) (by omega) e1
  rw [show (2 : Nat) ^ 160 = R from rfl] at t1 e1
  have t2 := fix_Times n (nrootY n m * nrootY n m / R) 256 hnM e1 (by omega) (by omega)
  have t3 := nroot_three _ q2
  have t4 := fix_Times (nrootY n m) (3 * R - n * (nrootY n m * nrootY n m / R) / 2 ^ 256) 161 (by omega) (by omega) (by omega) (by
    refine Nat.lt_of_le_of_lt (Nat.div_le_self _ _) (Nat.lt_of_le_of_lt (Nat.mul_le_mul q1 (Nat.sub_le _ _)) ?_)
    exact sq_M)
  clear q1 q2 e1 hb h1 h2 hKK hR3 hnM hm
  generalize nrootY n m * (3 * R - n * (nrootY n m * nrootY n m / R) / 2 ^ 256) / 2 ^ 161 = z4 at *
  generalize 3 * R - n * (nrootY n m * nrootY n m / R) / 2 ^ 256 = z3 at *
  generalize n * (nrootY n m * nrootY n m / R) / 2 ^ 256 = z2 at *
  generalize nrootY n m * nrootY n m / R = z1 at *
  generalize nrootY n m = y at *
  go_enter Tryz.func254, Tryz.ntmps254
  go_wp2_with ((first | (refine kf gf246 hst (t1) rfl rfl rfl rfl ?_; clear hst; intro w hst) | (refine kb 2 hst rfl rfl ?_; clear hst; intro b2 w hb2 hst) | (refine ka 3 hst tz44 rfl rfl ?_; clear hst; intro b3 w hb3 hst) | (refine kl hst ta44 rfl ?_) | (refine ka 4 hst tz44 rfl rfl ?_; clear hst; intro b4 w hb4 hst) | (refine kt hst ta44 rfl rfl ?_; clear hst; intro w hst)); try simp only [pz, pn, sz, sc])
  refine wp_region_T 6  hst (by kernel_rfl) ?_; clear hst; intro w hst; (try simp only [List.length_cons, List.length_nil, Nat.reduceAdd, Array.replicate_succ, Array.replicate_zero, List.push_toArray, List.nil_append, List.cons_append])
  refine rl 0 rfl ?_ (by first | exact ylA ta44 | exact ylM ta44); simp only [pz, pn, sz, sc]
  refine rl 1 rfl ?_ (by first | exact ylA ta44 | exact ylM ta44); simp only [pz, pn, sz, sc]
  refine rl 2 rfl ?_ (by first | exact ylA ta44 | exact ylM ta44); simp only [pz, pn, sz, sc]
  refine r1 3 ?_; (refine kf gf246 hst (t2) rfl rfl rfl rfl ?_; clear hst; intro w hst); (try simp only [pz, pn, sz, sc]); refine re ?_
  refine r1 4 ?_; (refine kf gf255 hst (t3) rfl rfl rfl rfl ?_; clear hst; intro w hst); (try simp only [pz, pn, sz, sc]); refine re ?_
  refine r1 5 ?_; (refine kf gf246 hst (t4) rfl rfl rfl rfl ?_; clear hst; intro w hst); (try simp only [pz, pn, sz, sc]); refine re ?_
  refine r1 6 ?_; (refine kt hst ta44 rfl rfl ?_; clear hst; intro w hst); (try simp only [pz, pn, sz, sc]); refine re ?_
  refine rd_ ?_
  go_wp2_with fail
  refine bp_c rfl rfl (la hst ta44) ⟨?_, hst.keeps⟩
  rfl

end Go.Proofs.YtefpoconpeggpaaGreatDoor.Rd

namespace Go.Proofs.YtefpoconpeggpaaGreatDoor.Rd
open Go Go.RowKit
set_option linter.unusedVariables false
set_option linter.unusedSimpArgs false
set_option maxRecDepth 100000

theorem restN_of (r n : Nat) (s : Bool) (h : n ≠ 0) : restN r n s = if r % 2 ^ n = 0 ∧ s = false then 0 else if r % 2 ^ n < 2 ^ (n - 1) then 1 else if r % 2 ^ n = 2 ^ (n - 1) ∧ s = false then 2 else 3 := by
  unfold restN; rw [if_neg h]

set_option maxHeartbeats 4000000 in
theorem mode_Rest (sig n : Nat) (hs : sig < M) (h1 : 1 ≤ n) (h2 : n < 512) (more : Bool) : Gives Tryz.prog 149 #[W sig, .int .i64 n, .bool more] (.int .i64 (restN sig n more : Nat)) := by
  intro w0
  have hst := St.start [] w0
  have hle : sig / 2 ^ n * 2 ^ n ≤ sig := Nat.div_mul_le_self _ _
  have hshr := wide_Shr sig (n : Nat) hs
  rw [clampN_nat _ (by omega)] at hshr
  have hshl := wide_Shl (sig / 2 ^ n) (n : Nat) (Nat.lt_of_le_of_lt (Nat.div_le_self _ _) hs)
  rw [clampN_nat _ (by omega), Nat.mod_eq_of_lt (Nat.lt_of_le_of_lt hle hs)] at hshl
  have hsub := wide_Sub sig (sig / 2 ^ n * 2 ^ n) hs (Nat.lt_of_le_of_lt hle hs)
  have hlow : (sig + M - sig / 2 ^ n * 2 ^ n) % M = sig % 2 ^ n := by
    have hd := Nat.div_add_mod sig (2 ^ n)
    rw [Nat.mul_comm] at hd
    rw [show sig + M - sig / 2 ^ n * 2 ^ n = sig % 2 ^ n + M by omega, Nat.add_mod_right, Nat.mod_eq_of_lt (Nat.lt_of_le_of_lt (Nat.mod_le _ _) hs)]
  rw [hlow] at hsub
  have hpM : 2 ^ (n - 1) < M := by
    have key : ∀ t, M = 2 ^ t → n - 1 < t → 2 ^ (n - 1) < M := fun t e h => by rw [e]; exact Nat.pow_lt_pow_right (by omega) h
    exact key (64 * 8) (by rw [M_eq, show B = 2 ^ 64 from rfl, ← Nat.pow_mul]) (by omega)
  have hpw := wide_Power ((n : Int) - 1)
  rw [show pow2 ((n : Int) - 1) = 2 ^ (n - 1) by unfold pow2; rw [if_pos (by omega)]; congr 1; omega] at hpw
  have hlM : sig % 2 ^ n < M := Nat.lt_of_le_of_lt (Nat.mod_le _ _) hs
  have hcmp := wide_Cmp (sig % 2 ^ n) (2 ^ (n - 1)) hlM hpM
  have hp0 : 0 < 2 ^ (n - 1) := Nat.pow_pos (by omega)
  have hM := M_pos
  have n0 : ¬ (n : Int) ≤ 0 := by omega
  have n5 : (n : Int) < 512 := by omega
  have n6 : ¬ (512 : Int) < (n : Int) := by omega
  have hW1 : IntKind.i64.wrap ((n : Int) - 1) = (n : Int) - 1 := by rw [IntKind.wrap_i64]; omega
  rw [restN_of sig n more (by omega)]
  clear hle hlow h1 h2 hs hpM
  generalize sig / 2 ^ n * 2 ^ n = s2 at *
  generalize sig / 2 ^ n = s1 at *
  generalize sig % 2 ^ n = x at *
  generalize 2 ^ (n - 1) = p at *
  rcases Nat.lt_trichotomy x p with hx | hx | hx
  · rw [show cmp x p = -1 by unfold cmp; rw [if_pos hx]] at hcmp
    cases more
    · by_cases hx0 : x = 0
      · rw [if_pos ⟨hx0, rfl⟩]
        have Q0 : decide (x = 0) = true := by simpa using hx0
        clear hx hx0
        go_enter Tryz.func149, Tryz.ntmps149
        go_wp2_with ((first | (refine kf gf87 hst (hshr) rfl rfl rfl rfl ?_; clear hst; intro w hst) | (refine kb 3 hst rfl rfl ?_; clear hst; intro b3 w hb3 hst) | (refine kl hst ta44 rfl ?_) | (refine ka 7 hst tz44 rfl rfl ?_; clear hst; intro b7 w hb7 hst) | (refine kt hst ta44 rfl rfl ?_; clear hst; intro w hst) | (refine ka 8 hst tz44 rfl rfl ?_; clear hst; intro b8 w hb8 hst)); try simp only [pz, pn, sz, sc])
        refine wp_region_T 8  hst (by kernel_rfl) ?_; clear hst; intro w hst; (try simp only [List.length_cons, List.length_nil, Nat.reduceAdd, Array.replicate_succ, Array.replicate_zero, List.push_toArray, List.nil_append, List.cons_append])
        refine r0 2 ?_; simp only [pz, pn, sz, sc]
        refine rl 0 rfl ?_ (by first | exact ylA ta44 | exact ylM ta44); simp only [pz, pn, sz, sc]
        refine rl 1 rfl ?_ (by first | exact ylA ta44 | exact ylM ta44); simp only [pz, pn, sz, sc]
        refine r1 3 ?_; (refine kf gf48 hst (hshl) rfl rfl rfl rfl ?_; clear hst; intro w hst); (try simp only [pz, pn, sz, sc]); refine re ?_
        refine r1 4 ?_; (refine kf gf122 hst (hsub) rfl rfl rfl rfl ?_; clear hst; intro w hst); (try simp only [pz, pn, sz, sc]); refine re ?_
        refine r0 5 ?_; simp only [pz, pn, sz, sc]
        refine r0 6 ?_; simp only [pz, pn, sz, sc]
        refine r0 7 ?_; simp only [pz, pn, sz, sc]
        refine r1 8 ?_; (refine kt hst ta44 rfl rfl ?_; clear hst; intro w hst); (try simp only [pz, pn, sz, sc]); refine re ?_
        refine rd_ ?_
        all_goals
          go_wp2_with fail
          refine wp_region_T 6  hst (by kernel_rfl) ?_; clear hst; intro w hst; (try simp only [List.length_cons, List.length_nil, Nat.reduceAdd, Array.replicate_succ, Array.replicate_zero, List.push_toArray, List.nil_append, List.cons_append])
          refine r0 1 ?_; simp only [pz, pn, sz, sc, hW1]
          refine r0 2 ?_; simp only [pz, pn, sz, sc, hW1]
          refine rl 0 rfl ?_ (by first | exact ylA ta44 | exact ylM ta44); simp only [pz, pn, sz, sc, hW1]
          refine r1 3 ?_; (refine kf gf127 hst (hpw) rfl rfl rfl rfl ?_; clear hst; intro w hst); (try simp only [pz, pn, sz, sc, hW1]); refine re ?_
          refine r1 4 ?_; (refine kf gf166 hst (hcmp) rfl rfl rfl rfl ?_; clear hst; intro w hst); (try simp only [pz, pn, sz, sc, hW1]); refine re ?_
          refine r0 5 ?_; simp only [pz, pn, sz, sc, hW1]
          refine rd_ ?_
          all_goals
            go_wp2_with ((first | (refine wl_guard (by rfl) ?_) | (refine kl hst ta44 rfl ?_) | (refine kn tr44 tc22 rfl ?_)); try simp only [pz, pn, sz, sc])
            refine bp_t rfl rfl (by rfl) ⟨?_, hst.keeps⟩
            rfl
      · rw [if_neg (by simp [hx0]), if_pos hx]
        have Q0 : decide (x = 0) = false := by simpa using hx0
        clear hx hx0
        go_enter Tryz.func149, Tryz.ntmps149
        go_wp2_with ((first | (refine kf gf87 hst (hshr) rfl rfl rfl rfl ?_; clear hst; intro w hst) | (refine kb 3 hst rfl rfl ?_; clear hst; intro b3 w hb3 hst) | (refine kl hst ta44 rfl ?_) | (refine ka 7 hst tz44 rfl rfl ?_; clear hst; intro b7 w hb7 hst) | (refine kt hst ta44 rfl rfl ?_; clear hst; intro w hst) | (refine ka 8 hst tz44 rfl rfl ?_; clear hst; intro b8 w hb8 hst)); try simp only [pz, pn, sz, sc])
        refine wp_region_T 8  hst (by kernel_rfl) ?_; clear hst; intro w hst; (try simp only [List.length_cons, List.length_nil, Nat.reduceAdd, Array.replicate_succ, Array.replicate_zero, List.push_toArray, List.nil_append, List.cons_append])
        refine r0 2 ?_; simp only [pz, pn, sz, sc]
        refine rl 0 rfl ?_ (by first | exact ylA ta44 | exact ylM ta44); simp only [pz, pn, sz, sc]
        refine rl 1 rfl ?_ (by first | exact ylA ta44 | exact ylM ta44); simp only [pz, pn, sz, sc]
        refine r1 3 ?_; (refine kf gf48 hst (hshl) rfl rfl rfl rfl ?_; clear hst; intro w hst); (try simp only [pz, pn, sz, sc]); refine re ?_
        refine r1 4 ?_; (refine kf gf122 hst (hsub) rfl rfl rfl rfl ?_; clear hst; intro w hst); (try simp only [pz, pn, sz, sc]); refine re ?_
        refine r0 5 ?_; simp only [pz, pn, sz, sc]
        refine r0 6 ?_; simp only [pz, pn, sz, sc]
        refine r0 7 ?_; simp only [pz, pn, sz, sc]
        refine r1 8 ?_; (refine kt hst ta44 rfl rfl ?_; clear hst; intro w hst); (try simp only [pz, pn, sz, sc]); refine re ?_
        refine rd_ ?_
        all_goals
          go_wp2_with fail
          refine wp_region_T 6  hst (by kernel_rfl) ?_; clear hst; intro w hst; (try simp only [List.length_cons, List.length_nil, Nat.reduceAdd, Array.replicate_succ, Array.replicate_zero, List.push_toArray, List.nil_append, List.cons_append])
          refine r0 1 ?_; simp only [pz, pn, sz, sc, hW1]
          refine r0 2 ?_; simp only [pz, pn, sz, sc, hW1]
          refine rl 0 rfl ?_ (by first | exact ylA ta44 | exact ylM ta44); simp only [pz, pn, sz, sc, hW1]
          refine r1 3 ?_; (refine kf gf127 hst (hpw) rfl rfl rfl rfl ?_; clear hst; intro w hst); (try simp only [pz, pn, sz, sc, hW1]); refine re ?_
          refine r1 4 ?_; (refine kf gf166 hst (hcmp) rfl rfl rfl rfl ?_; clear hst; intro w hst); (try simp only [pz, pn, sz, sc, hW1]); refine re ?_
          refine r0 5 ?_; simp only [pz, pn, sz, sc, hW1]
          refine rd_ ?_
          all_goals
            go_wp2_with ((first | (refine wl_guard (by rfl) ?_) | (refine kl hst ta44 rfl ?_) | (refine kn tr44 tc22 rfl ?_)); try simp only [pz, pn, sz, sc])
            refine bp_t rfl rfl (by rfl) ⟨?_, hst.keeps⟩
            rfl
    · rw [if_neg (by simp), if_pos hx]
      clear hx
      go_enter Tryz.func149, Tryz.ntmps149
      go_wp2_with ((first | (refine kf gf87 hst (hshr) rfl rfl rfl rfl ?_; clear hst; intro w hst) | (refine kb 3 hst rfl rfl ?_; clear hst; intro b3 w hb3 hst) | (refine kl hst ta44 rfl ?_) | (refine ka 7 hst tz44 rfl rfl ?_; clear hst; intro b7 w hb7 hst) | (refine kt hst ta44 rfl rfl ?_; clear hst; intro w hst) | (refine ka 8 hst tz44 rfl rfl ?_; clear hst; intro b8 w hb8 hst)); try simp only [pz, pn, sz, sc])
      refine wp_region_T 8  hst (by kernel_rfl) ?_; clear hst; intro w hst; (try simp only [List.length_cons, List.length_nil, Nat.reduceAdd, Array.replicate_succ, Array.replicate_zero, List.push_toArray, List.nil_append, List.cons_append])
      refine r0 2 ?_; simp only [pz, pn, sz, sc]
      refine rl 0 rfl ?_ (by first | exact ylA ta44 | exact ylM ta44); simp only [pz, pn, sz, sc]
      refine rl 1 rfl ?_ (by first | exact ylA ta44 | exact ylM ta44); simp only [pz, pn, sz, sc]
      refine r1 3 ?_; (refine kf gf48 hst (hshl) rfl rfl rfl rfl ?_; clear hst; intro w hst); (try simp only [pz, pn, sz, sc]); refine re ?_
      refine r1 4 ?_; (refine kf gf122 hst (hsub) rfl rfl rfl rfl ?_; clear hst; intro w hst); (try simp only [pz, pn, sz, sc]); refine re ?_
      refine r0 5 ?_; simp only [pz, pn, sz, sc]
      refine r0 6 ?_; simp only [pz, pn, sz, sc]
      refine r0 7 ?_; simp only [pz, pn, sz, sc]
      refine r1 8 ?_; (refine kt hst ta44 rfl rfl ?_; clear hst; intro w hst); (try simp only [pz, pn, sz, sc]); refine re ?_
      refine rd_ ?_
      all_goals
        go_wp2_with fail
        refine wp_region_T 6  hst (by kernel_rfl) ?_; clear hst; intro w hst; (try simp only [List.length_cons, List.length_nil, Nat.reduceAdd, Array.replicate_succ, Array.replicate_zero, List.push_toArray, List.nil_append, List.cons_append])
        refine r0 1 ?_; simp only [pz, pn, sz, sc, hW1]
        refine r0 2 ?_; simp only [pz, pn, sz, sc, hW1]
        refine rl 0 rfl ?_ (by first | exact ylA ta44 | exact ylM ta44); simp only [pz, pn, sz, sc, hW1]
        refine r1 3 ?_; (refine kf gf127 hst (hpw) rfl rfl rfl rfl ?_; clear hst; intro w hst); (try simp only [pz, pn, sz, sc, hW1]); refine re ?_
        refine r1 4 ?_; (refine kf gf166 hst (hcmp) rfl rfl rfl rfl ?_; clear hst; intro w hst); (try simp only [pz, pn, sz, sc, hW1]); refine re ?_
        refine r0 5 ?_; simp only [pz, pn, sz, sc, hW1]
        refine rd_ ?_
        all_goals
          go_wp2_with ((first | (refine wl_guard (by rfl) ?_)); try simp only [pz, pn, sz, sc])
          refine bp_t rfl rfl (by rfl) ⟨?_, hst.keeps⟩
          rfl
  · subst hx
    rw [show cmp x x = 0 by unfold cmp; rw [if_neg (by omega), if_neg (by omega)]] at hcmp
    have h0 : x ≠ 0 := by omega
    clear hp0
    cases more
    · rw [if_neg (by simp [h0]), if_neg (by omega), if_pos ⟨rfl, rfl⟩]
      clear h0
      go_enter Tryz.func149, Tryz.ntmps149
      go_wp2_with ((first | (refine kf gf87 hst (hshr) rfl rfl rfl rfl ?_; clear hst; intro w hst) | (refine kb 3 hst rfl rfl ?_; clear hst; intro b3 w hb3 hst) | (refine kl hst ta44 rfl ?_) | (refine ka 7 hst tz44 rfl rfl ?_; clear hst; intro b7 w hb7 hst) | (refine kt hst ta44 rfl rfl ?_; clear hst; intro w hst) | (refine ka 8 hst tz44 rfl rfl ?_; clear hst; intro b8 w hb8 hst)); try simp only [pz, pn, sz, sc])
      refine wp_region_T 8  hst (by kernel_rfl) ?_; clear hst; intro w hst; (try simp only [List.length_cons, List.length_nil, Nat.reduceAdd, Array.replicate_succ, Array.replicate_zero, List.push_toArray, List.nil_append, List.cons_append])
      refine r0 2 ?_; simp only [pz, pn, sz, sc]
      refine rl 0 rfl ?_ (by first | exact ylA ta44 | exact ylM ta44); simp only [pz, pn, sz, sc]
      refine rl 1 rfl ?_ (by first | exact ylA ta44 | exact ylM ta44); simp only [pz, pn, sz, sc]
      refine r1 3 ?_; (refine kf gf48 hst (hshl) rfl rfl rfl rfl ?_; clear hst; intro w hst); (try simp only [pz, pn, sz, sc]); refine re ?_
      refine r1 4 ?_; (refine kf gf122 hst (hsub) rfl rfl rfl rfl ?_; clear hst; intro w hst); (try simp only [pz, pn, sz, sc]); refine re ?_
      refine r0 5 ?_; simp only [pz, pn, sz, sc]
      refine r0 6 ?_; simp only [pz, pn, sz, sc]
      refine r0 7 ?_; simp only [pz, pn, sz, sc]
      refine r1 8 ?_; (refine kt hst ta44 rfl rfl ?_; clear hst; intro w hst); (try simp only [pz, pn, sz, sc]); refine re ?_
      refine rd_ ?_
      all_goals
        go_wp2_with fail
        refine wp_region_T 6  hst (by kernel_rfl) ?_; clear hst; intro w hst; (try simp only [List.length_cons, List.length_nil, Nat.reduceAdd, Array.replicate_succ, Array.replicate_zero, List.push_toArray, List.nil_append, List.cons_append])
        refine r0 1 ?_; simp only [pz, pn, sz, sc, hW1]
        refine r0 2 ?_; simp only [pz, pn, sz, sc, hW1]
        refine rl 0 rfl ?_ (by first | exact ylA ta44 | exact ylM ta44); simp only [pz, pn, sz, sc, hW1]
        refine r1 3 ?_; (refine kf gf127 hst (hpw) rfl rfl rfl rfl ?_; clear hst; intro w hst); (try simp only [pz, pn, sz, sc, hW1]); refine re ?_
        refine r1 4 ?_; (refine kf gf166 hst (hcmp) rfl rfl rfl rfl ?_; clear hst; intro w hst); (try simp only [pz, pn, sz, sc, hW1]); refine re ?_
        refine r0 5 ?_; simp only [pz, pn, sz, sc, hW1]
        refine rd_ ?_
        all_goals
          go_wp2_with ((first | (refine wl_guard (by rfl) ?_)); try simp only [pz, pn, sz, sc])
          refine bp_t rfl rfl (by rfl) ⟨?_, hst.keeps⟩
          rfl
    · rw [if_neg (by simp), if_neg (by omega), if_neg (by simp)]
      clear h0
      go_enter Tryz.func149, Tryz.ntmps149
      go_wp2_with ((first | (refine kf gf87 hst (hshr) rfl rfl rfl rfl ?_; clear hst; intro w hst) | (refine kb 3 hst rfl rfl ?_; clear hst; intro b3 w hb3 hst) | (refine kl hst ta44 rfl ?_) | (refine ka 7 hst tz44 rfl rfl ?_; clear hst; intro b7 w hb7 hst) | (refine kt hst ta44 rfl rfl ?_; clear hst; intro w hst) | (refine ka 8 hst tz44 rfl rfl ?_; clear hst; intro b8 w hb8 hst)); try simp only [pz, pn, sz, sc])
      refine wp_region_T 8  hst (by kernel_rfl) ?_; clear hst; intro w hst; (try simp only [List.length_cons, List.length_nil, Nat.reduceAdd, Array.replicate_succ, Array.replicate_zero, List.push_toArray, List.nil_append, List.cons_append])
      refine r0 2 ?_; simp only [pz, pn, sz, sc]
      refine rl 0 rfl ?_ (by first | exact ylA ta44 | exact ylM ta44); simp only [pz, pn, sz, sc]
      refine rl 1 rfl ?_ (by first | exact ylA ta44 | exact ylM ta44); simp only [pz, pn, sz, sc]
      refine r1 3 ?_; (refine kf gf48 hst (hshl) rfl rfl rfl rfl ?_; clear hst; intro w hst); (try simp only [pz, pn, sz, sc]); refine re ?_
      refine r1 4 ?_; (refine kf gf122 hst (hsub) rfl rfl rfl rfl ?_; clear hst; intro w hst); (try simp only [pz, pn, sz, sc]); refine re ?_
      refine r0 5 ?_; simp only [pz, pn, sz, sc]
      refine r0 6 ?_; simp only [pz, pn, sz, sc]
      refine r0 7 ?_; simp only [pz, pn, sz, sc]
      refine r1 8 ?_; (refine kt hst ta44 rfl rfl ?_; clear hst; intro w hst); (try simp only [pz, pn, sz, sc]); refine re ?_
      refine rd_ ?_
      all_goals
        go_wp2_with fail
        refine wp_region_T 6  hst (by kernel_rfl) ?_; clear hst; intro w hst; (try simp only [List.length_cons, List.length_nil, Nat.reduceAdd, Array.replicate_succ, Array.replicate_zero, List.push_toArray, List.nil_append, List.cons_append])
        refine r0 1 ?_; simp only [pz, pn, sz, sc, hW1]
        refine r0 2 ?_; simp only [pz, pn, sz, sc, hW1]
        refine rl 0 rfl ?_ (by first | exact ylA ta44 | exact ylM ta44); simp only [pz, pn, sz, sc, hW1]
        refine r1 3 ?_; (refine kf gf127 hst (hpw) rfl rfl rfl rfl ?_; clear hst; intro w hst); (try simp only [pz, pn, sz, sc, hW1]); refine re ?_
        refine r1 4 ?_; (refine kf gf166 hst (hcmp) rfl rfl rfl rfl ?_; clear hst; intro w hst); (try simp only [pz, pn, sz, sc, hW1]); refine re ?_
        refine r0 5 ?_; simp only [pz, pn, sz, sc, hW1]
        refine rd_ ?_
        all_goals
          go_wp2_with ((first | (refine wl_guard (by rfl) ?_)); try simp only [pz, pn, sz, sc])
          refine bp_t rfl rfl (by rfl) ⟨?_, hst.keeps⟩
          rfl
  · rw [show cmp x p = 1 by unfold cmp; rw [if_neg (by omega), if_pos hx]] at hcmp
    rw [if_neg (by omega), if_neg (by omega), if_neg (by omega)]
    clear hx
    go_enter Tryz.func149, Tryz.ntmps149
    go_wp2_with ((first | (refine kf gf87 hst (hshr) rfl rfl rfl rfl ?_; clear hst; intro w hst) | (refine kb 3 hst rfl rfl ?_; clear hst; intro b3 w hb3 hst) | (refine kl hst ta44 rfl ?_) | (refine ka 7 hst tz44 rfl rfl ?_; clear hst; intro b7 w hb7 hst) | (refine kt hst ta44 rfl rfl ?_; clear hst; intro w hst) | (refine ka 8 hst tz44 rfl rfl ?_; clear hst; intro b8 w hb8 hst)); try simp only [pz, pn, sz, sc])
    refine wp_region_T 8  hst (by kernel_rfl) ?_; clear hst; intro w hst; (try simp only [List.length_cons, List.length_nil, Nat.reduceAdd, Array.replicate_succ, Array.replicate_zero, List.push_toArray, List.nil_append, List.cons_append])
    refine r0 2 ?_; simp only [pz, pn, sz, sc]
    refine rl 0 rfl ?_ (by first | exact ylA ta44 | exact ylM ta44); simp only [pz, pn, sz, sc]
    refine rl 1 rfl ?_ (by first | exact ylA ta44 | exact ylM ta44); simp only [pz, pn, sz, sc]
    refine r1 3 ?_; (refine kf gf48 hst (hshl) rfl rfl rfl rfl ?_; clear hst; intro w hst); (try simp only [pz, pn, sz, sc]); refine re ?_
    refine r1 4 ?_; (refine kf gf122 hst (hsub) rfl rfl rfl rfl ?_; clear hst; intro w hst); (try simp only [pz, pn, sz, sc]); refine re ?_
    refine r0 5 ?_; simp only [pz, pn, sz, sc]
    refine r0 6 ?_; simp only [pz, pn, sz, sc]
    refine r0 7 ?_; simp only [pz, pn, sz, sc]
    refine r1 8 ?_; (refine kt hst ta44 rfl rfl ?_; clear hst; intro w hst); (try simp only [pz, pn, sz, sc]); refine re ?_
    refine rd_ ?_
    all_goals
      go_wp2_with fail
      refine wp_region_T 6  hst (by kernel_rfl) ?_; clear hst; intro w hst; (try simp only [List.length_cons, List.length_nil, Nat.reduceAdd, Array.replicate_succ, Array.replicate_zero, List.push_toArray, List.nil_append, List.cons_append])
      refine r0 1 ?_; simp only [pz, pn, sz, sc, hW1]
      refine r0 2 ?_; simp only [pz, pn, sz, sc, hW1]
      refine rl 0 rfl ?_ (by first | exact ylA ta44 | exact ylM ta44); simp only [pz, pn, sz, sc, hW1]
      refine r1 3 ?_; (refine kf gf127 hst (hpw) rfl rfl rfl rfl ?_; clear hst; intro w hst); (try simp only [pz, pn, sz, sc, hW1]); refine re ?_
      refine r1 4 ?_; (refine kf gf166 hst (hcmp) rfl rfl rfl rfl ?_; clear hst; intro w hst); (try simp only [pz, pn, sz, sc, hW1]); refine re ?_
      refine r0 5 ?_; simp only [pz, pn, sz, sc, hW1]
      refine rd_ ?_
      all_goals
        go_wp2_with fail
        refine bp_t rfl rfl (by rfl) ⟨?_, hst.keeps⟩
        rfl

set_option maxHeartbeats 4000000 in
theorem mode_Cut (sig n : Nat) (hs : sig < M) (h1 : 1 ≤ n) (h2 : n < 512) (more : Bool) (m : Nat) (m1 : 1 ≤ m) (m5 : m ≤ 5) (ng : Bool) : Gives Tryz.prog 121 #[W sig, .int .i64 n, .bool more, .int .i64 m, .bool ng] (.tuple #[W (cutN sig n more m ng), .bool (decide (restN sig n more ≠ 0))]) := by
  intro w0
  have hst := St.start [] w0
  have his := mode_Is_yes m (by omega) (by omega)
  have hrest := mode_Rest sig n hs h1 h2 more
  have hshr := wide_Shr sig (n : Nat) hs
  rw [clampN_nat _ (by omega)] at hshr
  have hoM : sig / 2 ^ n < M := Nat.lt_of_le_of_lt (Nat.div_le_self _ _) hs
  have hbit := wide_Bit (sig / 2 ^ n) 0 hoM (by omega)
  rw [Nat.testBit_zero, show ((0 : Nat) : Int) = 0 from rfl] at hbit
  have hgr := mode_Grows m m1 m5 ng (decide (sig / 2 ^ n % 2 = 1)) (restN sig n more) (restN_le _ _ _)
  have hof := of_u64 1 (by decide)
  have h1' := Lib.hid (wc_1 1 (by decide))
  have h1M : 1 < M := small_M (by decide)
  have hadd := wide_Add (sig / 2 ^ n) 1 hoM h1M
  have hlt : sig / 2 ^ n + 1 < M := by
    have : sig / 2 ^ n ≤ sig / 2 := Nat.div_le_div_left (Nat.le_trans (by decide : 2 ≤ 2 ^ 1) (Nat.pow_le_pow_right (by omega) h1)) (by omega)
    omega
  rw [Nat.mod_eq_of_lt hlt] at hadd
  unfold cutN
  have hne : decide (restN sig n more ≠ 0) = ((restN sig n more : Int) != 0) := by
    by_cases h : restN sig n more = 0
    · rw [h]; rfl
    · have q : ((restN sig n more : Int) != 0) = true := by simp; omega
      rw [q]; simpa using h
  rw [hne]
  clear hne hlt hoM hs h1 h2 m1 m5 h1M
  generalize decide (sig / 2 ^ n % 2 = 1) = odd at *
  generalize growsB m ng odd (restN sig n more) = gb at *
  generalize sig / 2 ^ n = o at *
  generalize restN sig n more = rs at *
  cases gb
  · rw [if_neg (by simp), Nat.add_zero]
    go_enter Tryz.func121, Tryz.ntmps121
    go_wp2_with ((first | (refine kf gf62 hst (his) rfl rfl rfl rfl ?_; clear hst; intro w hst) | (refine kf gf149 hst (hrest) rfl rfl rfl rfl ?_; clear hst; intro w hst) | (refine kf gf87 hst (hshr) rfl rfl rfl rfl ?_; clear hst; intro w hst) | (refine kf gf86 hst (hbit) rfl rfl rfl rfl ?_; clear hst; intro w hst) | (refine kf gf118 hst (hgr) rfl rfl rfl rfl ?_; clear hst; intro w hst) | (refine kb 5 hst rfl rfl ?_; clear hst; intro b5 w hb5 hst) | (refine ka 10 hst tz44 rfl rfl ?_; clear hst; intro b10 w hb10 hst) | (refine kt hst ta44 rfl rfl ?_; clear hst; intro w hst) | (refine kl hst ta44 rfl ?_) | (refine ka 13 hst tz44 rfl rfl ?_; clear hst; intro b13 w hb13 hst)); try simp only [pz, pn, sz, sc])
    refine bp_ct rfl rfl (la hst ta44) (by rfl) ⟨?_, hst.keeps⟩
    rfl
  · rw [if_pos rfl]
    go_enter Tryz.func121, Tryz.ntmps121
    go_wp2_with ((first | (refine kf gf62 hst (his) rfl rfl rfl rfl ?_; clear hst; intro w hst) | (refine kf gf149 hst (hrest) rfl rfl rfl rfl ?_; clear hst; intro w hst) | (refine kf gf87 hst (hshr) rfl rfl rfl rfl ?_; clear hst; intro w hst) | (refine kf gf86 hst (hbit) rfl rfl rfl rfl ?_; clear hst; intro w hst) | (refine kf gf118 hst (hgr) rfl rfl rfl rfl ?_; clear hst; intro w hst) | (refine kb 5 hst rfl rfl ?_; clear hst; intro b5 w hb5 hst) | (refine ka 10 hst tz44 rfl rfl ?_; clear hst; intro b10 w hb10 hst) | (refine kt hst ta44 rfl rfl ?_; clear hst; intro w hst) | (refine kl hst ta44 rfl ?_) | (refine ka 13 hst tz44 rfl rfl ?_; clear hst; intro b13 w hb13 hst)); try simp only [pz, pn, sz, sc])
    refine wp_region_T 7  hst (by kernel_rfl) ?_; clear hst; intro w hst; (try simp only [List.length_cons, List.length_nil, Nat.reduceAdd, Array.replicate_succ, Array.replicate_zero, List.push_toArray, List.nil_append, List.cons_append])
    refine rl 0 rfl ?_ (by first | exact ylA ta44 | exact ylM ta44); simp only [pz, pn, sz, sc]
    refine r1 1 ?_; (refine wl_slice1 (o := ⟨some 37, _, _, _, _, _⟩) hst ts123 te22 rfl rfl (by (simp only [eval_lit, eval_k, eval_f, eval_g, List.getD_cons_succ, List.getD_cons_zero]) <;> rfl) (by rfl) ?_; clear hst; intro b37 w hb37 hst); (try simp only [pz, pn, sz, sc]); refine re ?_
    refine r1 2 ?_; (refine kg gf131 hst (fun w hst => hof _ w (by rw [← h1'.out]; exact hst.own _ _ (by repeat (first | exact List.Mem.head _ | refine List.Mem.tail _ ?_)))) rfl rfl rfl rfl ?_; clear hst; intro w hst); (try simp only [pz, pn, sz, sc]); refine re ?_
    refine r1 3 ?_; (refine kf gf104 hst (hadd) rfl rfl rfl rfl ?_; clear hst; intro w hst); (try simp only [pz, pn, sz, sc]); refine re ?_
    refine r0 4 ?_; simp only [pz, pn, sz, sc]
    refine r0 5 ?_; simp only [pz, pn, sz, sc]
    refine r0 6 ?_; simp only [pz, pn, sz, sc]
    refine r1 7 ?_; (refine kt hst ta44 rfl rfl ?_; clear hst; intro w hst); (try simp only [pz, pn, sz, sc]); refine re ?_
    refine rd_ ?_
    all_goals
      go_wp2_with ((first | (refine kt hst ta44 rfl rfl ?_; clear hst; intro w hst) | (refine kl hst ta44 rfl ?_)); try simp only [pz, pn, sz, sc])
      refine bp_ct rfl rfl (la hst ta44) (by rfl) ⟨?_, hst.keeps⟩
      rfl

end Go.Proofs.YtefpoconpeggpaaGreatDoor.Rd

namespace Go.Proofs.YtefpoconpeggpaaGreatDoor.Rd
set_option linter.unusedVariables false

/-- The word of a sign, a field and a significand. -/
def encW (f : Nat) (neg : Bool) (j s : Nat) : Nat := wEnc f j s + (if neg then 2 ^ (fB f - 1) else 0)
/-- The word, and the flags, of what overflows: infinite, or the greatest one. -/
def overW (f m : Nat) (neg : Bool) : Nat := (if m = 1 ∨ m = 2 ∨ growsB m neg false 3 = true then (2 * fE f + 1) * 2 ^ (fP f - 1) else (2 * fE f + 1) * 2 ^ (fP f - 1) - 1) + (if neg then 2 ^ (fB f - 1) else 0)
/-- Rounded by the reference's road: of a number with more digits than the precision. -/
def rndR (f m : Nat) (neg : Bool) (e : Int) (r : Nat) (s : Bool) : Nat × Nat :=
  if (fE f : Int) < e + bl r - fP f + bl (cutN r (bl r - fP f) s m neg) - 1 then (overW f m neg, 20)
  else if e + bl r - fP f + bl (cutN r (bl r - fP f) s m neg) - 1 < 1 - (fE f : Int) then
    (encW f neg 0 (cutN r (2 - (fE f : Int) - fP f - e).toNat s m neg), if restN r (2 - (fE f : Int) - fP f - e).toNat s = 0 then 0 else 24)
  else (encW f neg (e + bl r - fP f + bl (cutN r (bl r - fP f) s m neg) - 1 - (1 - (fE f : Int))).toNat (cutN r (bl r - fP f) s m neg * 2 ^ fP f / 2 ^ bl (cutN r (bl r - fP f) s m neg)), if restN r (bl r - fP f) s = 0 then 0 else 16)

/-- A number rounded to p digits, as the program keeps it: its digits, their place, whether that isn't just it. -/
def rDig (p m : Nat) (neg : Bool) (e : Int) (r : Nat) (s : Bool) : Nat × Int × Bool := if bl r ≤ p then (r, e, s) else (cutN r (bl r - p) s m neg, e + (bl r - p : Nat), decide (restN r (bl r - p) s ≠ 0))
/-- A number rounded at a place. -/
def rAt (place : Int) (m : Nat) (neg : Bool) (e : Int) (r : Nat) (s : Bool) : Nat × Bool := if place - e ≤ 0 then (r * 2 ^ (e - place).toNat, s) else (cutN r (place - e).toNat s m neg, decide (restN r (place - e).toNat s ≠ 0))
/-- Rounded by the program's road. -/
def rndP (f m : Nat) (neg : Bool) (e : Int) (r : Nat) (s : Bool) : Nat × Nat :=
  let d := rDig (fP f) m neg e r s
  let top : Int := d.2.1 + bl d.1 - 1
  if (fE f : Int) < top then (overW f m neg, 20)
  else if top < 1 - (fE f : Int) then
    let c := rAt (1 - (fE f : Int) - fP f + 1) m neg e r s
    (encW f neg 0 c.1, if c.2 then 24 else 0)
  else (encW f neg (top - (1 - (fE f : Int))).toNat (d.1 * 2 ^ fP f / 2 ^ bl d.1), if d.2.2 then 16 else 0)

end Go.Proofs.YtefpoconpeggpaaGreatDoor.Rd
