/- What gold's Pair, Divide answer; the set's Divide by gold. -/
import Derived.Test.YtggchelniblipaaGreatDoorJ21
namespace Go.Proofs.YtggchelniblipaaGreatDoor.Rd
open Go Go.RowKit
set_option linter.unusedVariables false
set_option linter.unusedSimpArgs false
set_option maxRecDepth 100000

theorem guess_recip (D : Nat) (h : 2 ^ 127 ≤ D) : recipAt (D / 2 ^ 121 - 64) = guessOf D := by
  have : 64 ≤ D / 2 ^ 121 := by omega
  unfold recipAt guessOf
  rw [show 129 + 2 * (D / 2 ^ 121 - 64) = 2 * (D / 2 ^ 121) + 1 by omega]
theorem goldP_small (N D : Nat) (h1 : 2 ^ 127 ≤ D) (h2 : D < 2 ^ 128) (hN : N < D * K) (k : Nat) (hk : k ≤ 5) : (goldP N D k).1 ≤ 2 * R ∧ (goldP N D k).2 ≤ 2 * R := by
  obtain ⟨i1, _, i3⟩ := goldP_near N D h1 h2 (Nat.le_of_lt hN) k hk
  have hd := dens_le k (by omega)
  have hnm : nums k ≤ 11 := by unfold nums; omega
  have hDK : 0 < D * K := Nat.mul_pos (by have : 0 < 2 ^ 127 := by decide
                                          omega) K_pos
  generalize (goldP N D k).1 = x at *
  generalize (goldP N D k).2 = y at *
  have hb : 2 ^ 154 + 11 ≤ R := by decide
  have hy : y ≤ R + 2 ^ 154 := by omega
  have a1 : N * y ≤ y * (D * K) := by rw [Nat.mul_comm]; exact Nat.mul_le_mul_left _ (Nat.le_of_lt hN)
  have a2 : nums k * (D * K) ≤ 11 * (D * K) := Nat.mul_le_mul_right _ hnm
  have a3 : x * (D * K) ≤ (y + 11) * (D * K) := by rw [Nat.add_mul]; omega
  have a4 := Nat.le_of_mul_le_mul_right a3 hDK
  omega

set_option maxHeartbeats 8000000 in
theorem gold_first_ (br : Nat) (c : Array Value) (hc : RomOk c) (N D : Nat) (h1 : 2 ^ 127 ≤ D) (h2 : D < 2 ^ 128) (hN : N < 2 ^ 256) (w0 : World) (hr : w0.heap[br]? = some (.cells c 92)) :
    GivesT Tryz.prog 195 #[.agg #[.pointer (some ⟨br, 0, none⟩)], W N, W D] (.agg (gPair (goldP N D 0))) [(br, .cells c 92)] [(br, .cells romF 92)] w0 := by
  have hst := (St.start [br] w0).add hr (by simp)
  have hltr := lt_of_some hr
  have hg := fun (w : World) (h : w.heap[br]? = some (.cells c 92)) => rom_Guess br c hc D h1 h2 w h
  rw [guess_recip D h1] at hg
  have hv := (guess_near D h1 h2).2.2
  show GivesT _ _ _ (.agg (wc 8 (N * guessOf D / 2 ^ 105) ++ wc 8 (D * guessOf D * 2 ^ 23))) _ _ _
  clear hr hc h1
  generalize guessOf D = v at *
  have hvB : v < B := by rw [B_val]; omega
  have hof := of_u64 v hvB
  have h1' := Lib.hid (wc_1 v hvB)
  have hvM : v < M := small_M (by omega)
  have hDM : D < M := small_M (by omega)
  have hNM : N < M := small_M (by omega)
  have hDv : D * v ≤ 2 ^ 128 * 2 ^ 10 := Nat.mul_le_mul (Nat.le_of_lt h2) (by omega)
  have hsm := prod_Small D v hDM hvB
  rw [Nat.mod_eq_of_lt (small_M (by omega))] at hsm
  have hshl := wide_Shl (D * v) 23 (small_M (by omega))
  rw [show clampN 23 = 23 from rfl, Nat.mod_eq_of_lt (small_M (by omega))] at hshl
  have hti := fix_Times N v 105 hNM hvM (by omega) (by
    refine Nat.lt_of_le_of_lt (Nat.div_le_self _ _) (Nat.lt_of_le_of_lt (Nat.mul_le_mul (Nat.le_of_lt hN) (show v ≤ 2 ^ 10 by omega)) (pow_sq_M 256 10 (by omega))))
  clear h2 hNM hvM hv hDv hDM hN
  generalize N * v / 2 ^ 105 = x at *
  generalize D * v * 2 ^ 23 = y at *
  generalize D * v = z at *
  generalize romF = cf at *
  have k2 : (wc 8 x ++ wc 8 y).size = 16 := by simp
  have k3 := app_one x y
  go_enter Tryz.func195, Tryz.ntmps195
  go_wp2_with ((first | (refine kT gf174 hst (fun w hst => hg w (hst.own _ _ (by simp))) rfl rfl rfl rfl ?_; clear hst; intro w hst) | (refine kf gf145 hst (hsm) rfl rfl rfl rfl ?_; clear hst; intro w hst) | (refine kb 3 hst rfl rfl ?_; clear hst; intro b3 w hb3 hst) | (refine kb 4 hst rfl rfl ?_; clear hst; intro b4 w hb4 hst) | (refine kb 5 hst rfl rfl ?_; clear hst; intro b5 w hb5 hst) | (refine ka 6 hst tz235 rfl rfl ?_; clear hst; intro b6 w hb6 hst) | (refine kc hst tc56 rfl ?_) | (refine kl hst ta24 rfl ?_) | (refine klm hst ta24 rfl ?_) | (refine ka 9 hst tz24 rfl rfl ?_; clear hst; intro b9 w hb9 hst) | (refine kt hst ta24 rfl rfl ?_; clear hst; intro w hst) | (refine ktm hst ta24 rfl rfl ?_; clear hst; intro w hst) | (refine wl_slice1 (o := ⟨some 26, _, _, _, _, _⟩) hst ts148 te22 rfl rfl (by (simp only [eval_lit, eval_k, eval_f, eval_g, List.getD_cons_succ, List.getD_cons_zero]) <;> rfl) (by rfl) ?_; clear hst; intro b26 w hb26 hst) | (refine kB (tb235_01 _ _) rfl ?_) | (refine kt hst ta235 rfl rfl ?_; clear hst; intro w hst) | (refine ktm hst ta235 rfl rfl ?_; clear hst; intro w hst)); try simp only [pz, pn, sz, sc])
  refine wp_region_T 8  hst (by kernel_rfl) ?_; clear hst; intro w hst; (try dsimp only [List.length_cons, List.length_nil]); (try simp only [List.length_cons, List.length_nil, Nat.reduceAdd, Array.replicate_succ, Array.replicate_zero, List.push_toArray, List.nil_append, List.cons_append])
  refine r0 1 ?_; simp only [pz, pn, sz, sc]
  refine rl 0 rfl ?_ (by first | exact ylA ta24 | exact ylM ta24); simp only [pz, pn, sz, sc]
  refine rl 5 rfl ?_ (by first | exact ylA ta24 | exact ylM ta24); simp only [pz, pn, sz, sc]
  refine r1 2 ?_; (refine wl_slice1 (o := ⟨some 26, _, _, _, _, _⟩) hst ts148 te22 rfl rfl (by (simp only [eval_lit, eval_k, eval_f, eval_g, List.getD_cons_succ, List.getD_cons_zero]) <;> rfl) (by rfl) ?_; clear hst; intro b26 w hb26 hst); (try simp only [pz, pn, sz, sc]); refine re ?_
  refine r1 3 ?_; (first | (refine kg gf88 hst (fun w hst => hof _ w (by rw [← h1'.out]; exact hst.own _ _ (by repeat (first | exact List.Mem.head _ | refine List.Mem.tail _ ?_)))) rfl rfl rfl rfl ?_; clear hst; intro w hst) | (refine kf gf167 hst (hti) rfl rfl rfl rfl ?_; clear hst; intro w hst) | (refine kf gf94 hst (hshl) rfl rfl rfl rfl ?_; clear hst; intro w hst) | (refine kp ?_)); (try simp only [pz, pn, sz, sc]); refine re ?_
  refine r1 4 ?_; (first | (refine kg gf88 hst (fun w hst => hof _ w (by rw [← h1'.out]; exact hst.own _ _ (by repeat (first | exact List.Mem.head _ | refine List.Mem.tail _ ?_)))) rfl rfl rfl rfl ?_; clear hst; intro w hst) | (refine kf gf167 hst (hti) rfl rfl rfl rfl ?_; clear hst; intro w hst) | (refine kf gf94 hst (hshl) rfl rfl rfl rfl ?_; clear hst; intro w hst) | (refine kp ?_)); (try simp only [pz, pn, sz, sc]); refine re ?_
  refine r1 6 ?_; (first | (refine kg gf88 hst (fun w hst => hof _ w (by rw [← h1'.out]; exact hst.own _ _ (by repeat (first | exact List.Mem.head _ | refine List.Mem.tail _ ?_)))) rfl rfl rfl rfl ?_; clear hst; intro w hst) | (refine kf gf167 hst (hti) rfl rfl rfl rfl ?_; clear hst; intro w hst) | (refine kf gf94 hst (hshl) rfl rfl rfl rfl ?_; clear hst; intro w hst) | (refine kp ?_)); (try simp only [pz, pn, sz, sc]); refine re ?_
  refine r0 7 ?_ (hy := yB (tb235_01 _ _)); simp only [pz, pn, sz, sc]
  refine r1 8 ?_; (first | (refine kt hst ta235 rfl rfl ?_; clear hst; intro w hst) | (refine ktm hst ta235 rfl rfl ?_; clear hst; intro w hst)); (try simp only [pz, pn, sz, sc]); refine re ?_
  refine rd_ ?_
  all_goals
    go_wp2_with ((first | (refine kb 3 hst rfl rfl ?_; clear hst; intro b3 w hb3 hst) | (refine kb 4 hst rfl rfl ?_; clear hst; intro b4 w hb4 hst) | (refine kb 5 hst rfl rfl ?_; clear hst; intro b5 w hb5 hst) | (refine ka 6 hst tz235 rfl rfl ?_; clear hst; intro b6 w hb6 hst) | (refine kc hst tc56 rfl ?_) | (refine kl hst ta24 rfl ?_) | (refine klm hst ta24 rfl ?_) | (refine ka 9 hst tz24 rfl rfl ?_; clear hst; intro b9 w hb9 hst) | (refine kt hst ta24 rfl rfl ?_; clear hst; intro w hst) | (refine ktm hst ta24 rfl rfl ?_; clear hst; intro w hst) | (refine wl_slice1 (o := ⟨some 26, _, _, _, _, _⟩) hst ts148 te22 rfl rfl (by (simp only [eval_lit, eval_k, eval_f, eval_g, List.getD_cons_succ, List.getD_cons_zero]) <;> rfl) (by rfl) ?_; clear hst; intro b26 w hb26 hst) | (refine kB (tb235_01 _ _) rfl ?_) | (refine kt hst ta235 rfl rfl ?_; clear hst; intro w hst) | (refine ktm hst ta235 rfl rfl ?_; clear hst; intro w hst)); try simp only [pz, pn, sz, sc])
    first | exact bp_c rfl rfl (la hst ta235) (GivesT.of hst rfl (by simp)) | exact bp_c rfl rfl (la hst ta235) ⟨rfl, hst.keeps, own_one (hst.own _ _ (by simp))⟩

set_option maxHeartbeats 8000000 in
theorem gold_pair_1 (x y : Nat) (hx : x ≤ 2 * R) (hy : y ≤ 2 * R) : Gives Tryz.prog 198 #[.agg (wc 8 x ++ wc 8 y)] (.agg (wc 8 (x * (2 * R - y) / R) ++ wc 8 (y * (2 * R - y) / R))) := by
  intro w0
  have hst := St.start [] w0
  have hR2 : 2 * R < M := small_M (by decide)
  have htw := fix_Two y hy
  have hf2 : 2 * R - y ≤ 2 * R := Nat.sub_le _ _
  have t2 := fix_Times x (2 * R - y) 160 (by omega) (by omega) (by omega) (Nat.lt_of_le_of_lt (Nat.div_le_self _ _) (two_M x _ hx hf2))
  have t3 := fix_Times y (2 * R - y) 160 (by omega) (by omega) (by omega) (Nat.lt_of_le_of_lt (Nat.div_le_self _ _) (two_M y _ hy hf2))
  rw [show (2 : Nat) ^ 160 = R from rfl] at t2 t3
  clear hx hy hR2 hf2
  generalize x * (2 * R - y) / R = y1 at *
  generalize y * (2 * R - y) / R = y2 at *
  generalize 2 * R - y = f at *
  have k1 : (wc 8 x ++ wc 8 y).size = 16 := by simp
  have k2 : (wc 8 y1 ++ wc 8 y2).size = 16 := by simp
  have k3 := app_one y1 y2
  go_enter Tryz.func198, Tryz.ntmps198
  go_wp2_with ((first | (refine kf gf173 hst (htw) rfl rfl rfl rfl ?_; clear hst; intro w hst) | (refine kb 1 hst rfl rfl ?_; clear hst; intro b1 w hb1 hst) | (refine ka 2 hst tz235 rfl rfl ?_; clear hst; intro b2 w hb2 hst) | (refine kl hst ta24 rfl ?_) | (refine klm hst ta24 rfl ?_) | (refine ka 3 hst tz24 rfl rfl ?_; clear hst; intro b3 w hb3 hst) | (refine kt hst ta24 rfl rfl ?_; clear hst; intro w hst) | (refine ktm hst ta24 rfl rfl ?_; clear hst; intro w hst) | (refine kB (tb235_01 _ _) rfl ?_) | (refine kt hst ta235 rfl rfl ?_; clear hst; intro w hst) | (refine ktm hst ta235 rfl rfl ?_; clear hst; intro w hst)); try simp only [pz, pn, sz, sc])
  refine wp_region_T 9  hst (by kernel_rfl) ?_; clear hst; intro w hst; (try dsimp only [List.length_cons, List.length_nil]); (try simp only [List.length_cons, List.length_nil, Nat.reduceAdd, Array.replicate_succ, Array.replicate_zero, List.push_toArray, List.nil_append, List.cons_append])
  refine r0 0 ?_; simp only [pz, pn, sz, sc]
  refine r0 4 ?_; simp only [pz, pn, sz, sc]
  refine rl 1 rfl ?_ (by first | exact ylA ta24 | exact ylM ta24); simp only [pz, pn, sz, sc]
  refine rl 2 rfl ?_ (by first | exact ylA ta24 | exact ylM ta24); simp only [pz, pn, sz, sc]
  refine rl 5 rfl ?_ (by first | exact ylA ta24 | exact ylM ta24); simp only [pz, pn, sz, sc]
  refine rl 6 rfl ?_ (by first | exact ylA ta24 | exact ylM ta24); simp only [pz, pn, sz, sc]
  refine r1 3 ?_; (first | (refine kf gf167 hst (t2) rfl rfl rfl rfl ?_; clear hst; intro w hst) | (refine kf gf167 hst (t3) rfl rfl rfl rfl ?_; clear hst; intro w hst) | (refine kp ?_)); (try simp only [pz, pn, sz, sc]); refine re ?_
  refine r1 7 ?_; (first | (refine kf gf167 hst (t2) rfl rfl rfl rfl ?_; clear hst; intro w hst) | (refine kf gf167 hst (t3) rfl rfl rfl rfl ?_; clear hst; intro w hst) | (refine kp ?_)); (try simp only [pz, pn, sz, sc]); refine re ?_
  refine r0 8 ?_ (hy := yB (tb235_01 _ _)); simp only [pz, pn, sz, sc]
  refine r1 9 ?_; (first | (refine kt hst ta235 rfl rfl ?_; clear hst; intro w hst) | (refine ktm hst ta235 rfl rfl ?_; clear hst; intro w hst)); (try simp only [pz, pn, sz, sc]); refine re ?_
  refine rd_ ?_
  go_wp2_with ((first | (refine kb 1 hst rfl rfl ?_; clear hst; intro b1 w hb1 hst) | (refine ka 2 hst tz235 rfl rfl ?_; clear hst; intro b2 w hb2 hst) | (refine kl hst ta24 rfl ?_) | (refine klm hst ta24 rfl ?_) | (refine ka 3 hst tz24 rfl rfl ?_; clear hst; intro b3 w hb3 hst) | (refine kt hst ta24 rfl rfl ?_; clear hst; intro w hst) | (refine ktm hst ta24 rfl rfl ?_; clear hst; intro w hst) | (refine kB (tb235_01 _ _) rfl ?_) | (refine kt hst ta235 rfl rfl ?_; clear hst; intro w hst) | (refine ktm hst ta235 rfl rfl ?_; clear hst; intro w hst)); try simp only [pz, pn, sz, sc])
  refine bp_c rfl rfl (la hst ta235) ⟨?_, hst.keeps⟩
  rfl

set_option maxHeartbeats 8000000 in
theorem gold_pair (be br : Nat) (c : Array Value) (hc : RomOk c) (hne : be ≠ br) (n d : Nat) (hn : n < M) (hd0 : d ≠ 0) (hd : d < 2 ^ 120) (hnd : n < d * 2 ^ 128) (w0 : World) (he : w0.heap[be]? = some (.cells (ptrC br) 106)) (hr : w0.heap[br]? = some (.cells c 92)) :
    GivesT Tryz.prog 197 #[.pointer (some ⟨be, 0, none⟩), W n, W d, .int .i64 5] (.agg (gPair (goldP (n * 2 ^ dby d) (d * 2 ^ dby d) 5))) [(br, .cells c 92)] [(br, .cells romF 92)] w0 := by
  have hst := St.eng hne he hr
  have hlt := lt_of_some he
  have hltr := lt_of_some hr
  have hnorm := srt_Norm d hd0 hd (small_M (by omega))
  obtain ⟨d1, d2⟩ := dnorm hd0 hd
  have hN : n * 2 ^ dby d < d * 2 ^ dby d * K := by
    have := Nat.mul_lt_mul_of_pos_right hnd (show 0 < 2 ^ dby d from Nat.pow_pos (by omega))
    rw [show K = 2 ^ 128 from rfl, Nat.mul_assoc d, Nat.mul_comm (2 ^ dby d), ← Nat.mul_assoc]; exact this
  have hN2 : n * 2 ^ dby d < 2 ^ 256 := Nat.lt_of_lt_of_le hN (by
    rw [show (2 : Nat) ^ 256 = 2 ^ 128 * K by decide]
    exact Nat.mul_le_mul_right _ (Nat.le_of_lt d2))
  have hshl := wide_Shl n (dby d : Nat) hn
  rw [clampN_nat _ (by unfold dby; omega), Nat.mod_eq_of_lt (small_M (by omega))] at hshl
  have hfi := fun (w : World) (q : w.heap[br]? = some (.cells c 92)) => gold_first_ br c hc (n * 2 ^ dby d) (d * 2 ^ dby d) d1 d2 hN2 w q
  have hstep := Lib.hid (fun k (hk : k < 5) => (show Gives Tryz.prog 198 #[.agg (gPair (goldP (n * 2 ^ dby d) (d * 2 ^ dby d) k))] (.agg (gPair (goldP (n * 2 ^ dby d) (d * 2 ^ dby d) (k + 1)))) by
    have hs := goldP_small _ _ d1 d2 hN k (by omega)
    exact gold_pair_1 _ _ hs.1 hs.2))
  clear hd0 hd hnd hc he hr d1 d2 hN hN2 hn
  generalize n * 2 ^ dby d = N at *
  generalize d * 2 ^ dby d = D at *
  have z0 := gPair_size (goldP N D 0)
  have z1 := gPair_one (goldP N D 0)
  generalize dby d = b at *
  generalize romF = cf at *
  unfold ptrC at hst
  go_enter Tryz.func197, Tryz.ntmps197
  go_wp2_with ((first | (refine kf gf128 hst (hnorm) rfl rfl rfl rfl ?_; clear hst; intro w hst) | (refine kb 5 hst rfl rfl ?_; clear hst; intro b5 w hb5 hst) | (refine kb 6 hst rfl rfl ?_; clear hst; intro b6 w hb6 hst) | (refine ka 8 hst tz235 rfl rfl ?_; clear hst; intro b8 w hb8 hst) | (refine kl hst ta24 rfl ?_) | (refine klm hst ta24 rfl ?_) | (refine kt hst ta24 rfl rfl ?_; clear hst; intro w hst) | (refine ktm hst ta24 rfl rfl ?_; clear hst; intro w hst) | (refine kl hst ta104 rfl ?_) | (refine klm hst ta104 rfl ?_) | (refine ka 11 hst tz235 rfl rfl ?_; clear hst; intro b11 w hb11 hst) | (refine kt hst ta235 rfl rfl ?_; clear hst; intro w hst) | (refine ktm hst ta235 rfl rfl ?_; clear hst; intro w hst) | (refine kl hst ta235 rfl ?_) | (refine klm hst ta235 rfl ?_)); try simp only [pz, pn, sz, sc])
  refine wp_region_TV 11 [(b6, .cells (wc 8 D) 24), (b5, .cells (wc 8 n) 24), (be, .cells #[.pointer (some ⟨br, 0, none⟩)] 106)] hst (by kernel_rfl) ?_; clear hst; intro w hst; (try dsimp only [List.length_cons, List.length_nil]); (try simp only [List.length_cons, List.length_nil, Nat.reduceAdd, Array.replicate_succ, Array.replicate_zero, List.push_toArray, List.nil_append, List.cons_append])
  refine r0 0 ?_; simp only [pz, pn, sz, sc]
  refine r0 1 ?_; simp only [pz, pn, sz, sc]
  refine r0 2 ?_; simp only [pz, pn, sz, sc]
  refine r0 5 ?_; simp only [pz, pn, sz, sc]
  refine rl 3 rfl ?_ (by first | exact ylA ta104 | exact ylM ta104); simp only [pz, pn, sz, sc]
  refine rl 4 rfl ?_ (by first | exact ylA ta24 | exact ylM ta24); simp only [pz, pn, sz, sc]
  refine rl 7 rfl ?_ (by first | exact ylA ta24 | exact ylM ta24); simp only [pz, pn, sz, sc]
  refine r2 6 9 ?_ ?_
  (first | (refine kf gf94 hst (hshl) rfl rfl rfl rfl ?_; clear hst; intro w hst) | (refine kT gf195 hst (fun w hst => hfi w (hst.own _ _ (by repeat (first | exact List.Mem.head _ | refine List.Mem.tail _ ?_)))) rfl rfl rfl rfl ?_; clear hst; intro w hst) | (refine kp ?_)); (try simp only [pz, pn, sz, sc]); refine re ?_
  refine r2 8 9 ?_ ?_
  (first | (refine kf gf94 hst (hshl) rfl rfl rfl rfl ?_; clear hst; intro w hst) | (refine kT gf195 hst (fun w hst => hfi w (hst.own _ _ (by repeat (first | exact List.Mem.head _ | refine List.Mem.tail _ ?_)))) rfl rfl rfl rfl ?_; clear hst; intro w hst) | (refine kp ?_)); (try simp only [pz, pn, sz, sc]); refine re ?_
  refine r1 9 ?_; (refine ka 11 hst tz235 rfl rfl ?_; clear hst; intro b11 w hb11 hst); (try simp only [pz, pn, sz, sc]); refine re ?_
  refine r1 10 ?_; (first | (refine kt hst ta235 rfl rfl ?_; clear hst; intro w hst) | (refine ktm hst ta235 rfl rfl ?_; clear hst; intro w hst)); (try simp only [pz, pn, sz, sc]); refine re ?_
  refine rd_ ?_
  rotate_left 1
  (refine ka 11 hst tz235 rfl rfl ?_; clear hst; intro b11 w hb11 hst); (try simp only [pz, pn, sz, sc]); refine re ?_
  refine r1 8 ?_; (first | (refine kf gf94 hst (hshl) rfl rfl rfl rfl ?_; clear hst; intro w hst) | (refine kT gf195 hst (fun w hst => hfi w (hst.own _ _ (by repeat (first | exact List.Mem.head _ | refine List.Mem.tail _ ?_)))) rfl rfl rfl rfl ?_; clear hst; intro w hst) | (refine kp ?_)); (try simp only [pz, pn, sz, sc]); refine re ?_
  refine r1 10 ?_; (first | (refine kt hst ta235 rfl rfl ?_; clear hst; intro w hst) | (refine ktm hst ta235 rfl rfl ?_; clear hst; intro w hst)); (try simp only [pz, pn, sz, sc]); refine re ?_
  refine rd_ ?_
  rotate_right 1
  rotate_left 2
  (refine ka 11 hst tz235 rfl rfl ?_; clear hst; intro b11 w hb11 hst); (try simp only [pz, pn, sz, sc]); refine re ?_
  refine r1 6 ?_; (first | (refine kf gf94 hst (hshl) rfl rfl rfl rfl ?_; clear hst; intro w hst) | (refine kT gf195 hst (fun w hst => hfi w (hst.own _ _ (by repeat (first | exact List.Mem.head _ | refine List.Mem.tail _ ?_)))) rfl rfl rfl rfl ?_; clear hst; intro w hst) | (refine kp ?_)); (try simp only [pz, pn, sz, sc]); refine re ?_
  refine r1 8 ?_; (first | (refine kf gf94 hst (hshl) rfl rfl rfl rfl ?_; clear hst; intro w hst) | (refine kT gf195 hst (fun w hst => hfi w (hst.own _ _ (by repeat (first | exact List.Mem.head _ | refine List.Mem.tail _ ?_)))) rfl rfl rfl rfl ?_; clear hst; intro w hst) | (refine kp ?_)); (try simp only [pz, pn, sz, sc]); refine re ?_
  refine r1 10 ?_; (first | (refine kt hst ta235 rfl rfl ?_; clear hst; intro w hst) | (refine ktm hst ta235 rfl rfl ?_; clear hst; intro w hst)); (try simp only [pz, pn, sz, sc]); refine re ?_
  refine rd_ ?_
  rotate_right 2
  all_goals
    go_wp2_with ((first | (refine kb 5 hst rfl rfl ?_; clear hst; intro b5 w hb5 hst) | (refine kb 6 hst rfl rfl ?_; clear hst; intro b6 w hb6 hst) | (refine ka 8 hst tz235 rfl rfl ?_; clear hst; intro b8 w hb8 hst) | (refine kl hst ta24 rfl ?_) | (refine klm hst ta24 rfl ?_) | (refine kt hst ta24 rfl rfl ?_; clear hst; intro w hst) | (refine ktm hst ta24 rfl rfl ?_; clear hst; intro w hst) | (refine kl hst ta104 rfl ?_) | (refine klm hst ta104 rfl ?_) | (refine ka 11 hst tz235 rfl rfl ?_; clear hst; intro b11 w hb11 hst) | (refine kt hst ta235 rfl rfl ?_; clear hst; intro w hst) | (refine ktm hst ta235 rfl rfl ?_; clear hst; intro w hst) | (refine kl hst ta235 rfl ?_) | (refine klm hst ta235 rfl ?_)); try simp only [pz, pn, sz, sc])
    clear hfi
    go_loopw [29] (fun i wr => ∃ k : Nat, k ≤ 5 ∧ i = .int .i64 k ∧ ∃ cs8 : Array Value, cs8.size = 16 ∧ St w0 [br] [(b11, .cells (gPair (goldP N D k)) 235), (b8, .cells cs8 235), (br, .cells cf 92)] wr) (fun i _ => 5 - (intOf i).toNat)
    case atStart => exact ⟨0, by omega, rfl, _, by kernel_rfl, hst.sub (by repeat (first | exact List.Sublist.refl _ | exact List.nil_sublist _ | refine List.Sublist.cons_cons _ ?_ | refine List.Sublist.cons _ ?_))⟩
    case round =>
      clear hst z0 z1
      obtain ⟨k, hk, rfl, cs8, hcs8, hst⟩ := hrel
      have z0 := gPair_size (goldP N D k)
      have z1 := gPair_one (goldP N D k)
      by_cases hlt : k < 5
      · have hi5 : (k : Int) < 5 := by omega
        have hn := hstep.out k hlt
        have z2 := gPair_size (goldP N D (k + 1))
        have z3 := gPair_one (goldP N D (k + 1))
        have hgf := gf198
        go_wp2_with ((first | (refine kf hgf hst (hn) rfl rfl rfl rfl ?_; clear hst; intro w hst) | (refine kb 5 hst rfl rfl ?_; clear hst; intro b5 w hb5 hst) | (refine kb 6 hst rfl rfl ?_; clear hst; intro b6 w hb6 hst) | (refine ka 8 hst tz235 rfl rfl ?_; clear hst; intro b8 w hb8 hst) | (refine kl hst ta24 rfl ?_) | (refine klm hst ta24 rfl ?_) | (refine kt hst ta24 rfl rfl ?_; clear hst; intro w hst) | (refine ktm hst ta24 rfl rfl ?_; clear hst; intro w hst) | (refine kl hst ta104 rfl ?_) | (refine klm hst ta104 rfl ?_) | (refine ka 11 hst tz235 rfl rfl ?_; clear hst; intro b11 w hb11 hst) | (refine kt hst ta235 rfl rfl ?_; clear hst; intro w hst) | (refine ktm hst ta235 rfl rfl ?_; clear hst; intro w hst) | (refine kl hst ta235 rfl ?_) | (refine klm hst ta235 rfl ?_)); try simp only [pz, pn, sz, sc])
        go_roundw
        case rel => exact ⟨k + 1, by omega, by go_num, cs8, hcs8, hst.sub (by repeat (first | exact List.Sublist.refl _ | exact List.nil_sublist _ | refine List.Sublist.cons_cons _ ?_ | refine List.Sublist.cons _ ?_))⟩
        case measure => simp [intOf]; omega
      · have : k = 5 := by omega
        subst this
        go_wp2_with ((first | (refine kb 5 hst rfl rfl ?_; clear hst; intro b5 w hb5 hst) | (refine kb 6 hst rfl rfl ?_; clear hst; intro b6 w hb6 hst) | (refine ka 8 hst tz235 rfl rfl ?_; clear hst; intro b8 w hb8 hst) | (refine kl hst ta24 rfl ?_) | (refine klm hst ta24 rfl ?_) | (refine kt hst ta24 rfl rfl ?_; clear hst; intro w hst) | (refine ktm hst ta24 rfl rfl ?_; clear hst; intro w hst) | (refine kl hst ta104 rfl ?_) | (refine klm hst ta104 rfl ?_) | (refine ka 11 hst tz235 rfl rfl ?_; clear hst; intro b11 w hb11 hst) | (refine kt hst ta235 rfl rfl ?_; clear hst; intro w hst) | (refine ktm hst ta235 rfl rfl ?_; clear hst; intro w hst) | (refine kl hst ta235 rfl ?_) | (refine klm hst ta235 rfl ?_)); try simp only [pz, pn, sz, sc])
        exact bp_c rfl rfl (la hst ta235) ⟨rfl, hst.keeps, own_one (hst.own _ _ (by simp))⟩

end Go.Proofs.YtggchelniblipaaGreatDoor.Rd

namespace Go.Proofs.YtggchelniblipaaGreatDoor.Rd
open Go Go.RowKit
set_option linter.unusedVariables false
set_option linter.unusedSimpArgs false
set_option maxRecDepth 100000

theorem mayE_ok {n d : Nat} (h : mayE n d = 0) : d ≠ 0 ∧ d < 2 ^ 120 ∧ n < d * 2 ^ 128 := by
  unfold mayE at h
  split at h
  · omega
  · split at h
    · omega
    · rename_i h0 h1; exact ⟨h0, by omega, by omega⟩
theorem mayE_le (n d : Nat) : mayE n d ≤ 5 := by unfold mayE; split; omega; split <;> omega

set_option maxHeartbeats 4000000 in
theorem gold_Pair_no (be n d : Nat) (hn : n < M) (hd : d < M) (he : mayE n d ≠ 0) : Gives Tryz.prog 196 #[.pointer (some ⟨be, 0, none⟩), W n, W d, .int .i64 5] (.tuple #[W 0, W 0, .int .i64 (mayE n d : Nat)]) := by
  intro w0
  have hst := St.start [] w0
  have hmay := radix2_May n d hn hd
  have hle := mayE_le n d
  generalize mayE n d = e at *
  have Q0 : ((e : Int) == 0) = false := by simp; omega
  clear he
  go_enter Tryz.func196, Tryz.ntmps196
  go_wp2_with ((first | (refine kf gf84 hst (hmay) rfl rfl rfl rfl ?_; clear hst; intro w hst) | (refine kb 5 hst rfl rfl ?_; clear hst; intro b5 w hb5 hst) | (refine kb 6 hst rfl rfl ?_; clear hst; intro b6 w hb6 hst) | (refine ka 8 hst tz24 rfl rfl ?_; clear hst; intro b8 w hb8 hst) | (refine ka 9 hst tz24 rfl rfl ?_; clear hst; intro b9 w hb9 hst) | (refine kl hst ta24 rfl ?_) | (refine klm hst ta24 rfl ?_) | (refine kt hst ta24 rfl rfl ?_; clear hst; intro w hst) | (refine ktm hst ta24 rfl rfl ?_; clear hst; intro w hst) | (refine ka 12 hst tz235 rfl rfl ?_; clear hst; intro b12 w hb12 hst) | (refine kt hst ta235 rfl rfl ?_; clear hst; intro w hst) | (refine ktm hst ta235 rfl rfl ?_; clear hst; intro w hst)); try simp only [pz, pn, sz, sc])
  refine bp_cct rfl rfl (la hst ta24) (la hst ta24) (by rfl) ⟨?_, hst.keeps⟩
  rw [W_zero]; rfl

set_option maxHeartbeats 8000000 in
theorem gold_Pair (be br : Nat) (c : Array Value) (hc : RomOk c) (hne : be ≠ br) (n d : Nat) (hn : n < M) (hd : d < M) (hm : mayE n d = 0) (w0 : World) (he : w0.heap[be]? = some (.cells (ptrC br) 106)) (hr : w0.heap[br]? = some (.cells c 92)) :
    GivesT Tryz.prog 196 #[.pointer (some ⟨be, 0, none⟩), W n, W d, .int .i64 5] (.tuple #[W (goldP (n * 2 ^ dby d) (d * 2 ^ dby d) 5).1, W (goldP (n * 2 ^ dby d) (d * 2 ^ dby d) 5).2, .int .i64 0]) [(br, .cells c 92)] [(br, .cells romF 92)] w0 := by
  have hst := St.eng hne he hr
  have hlt := lt_of_some he
  have hltr := lt_of_some hr
  have hmay := radix2_May n d hn hd
  rw [hm] at hmay
  obtain ⟨m1, m2, m3⟩ := mayE_ok hm
  have hp := fun (w : World) (q1 : w.heap[be]? = some (.cells (ptrC br) 106)) (q2 : w.heap[br]? = some (.cells c 92)) => gold_pair be br c hc hne n d hn m1 m2 m3 w q1 q2
  have z2 := gPair_size (goldP (n * 2 ^ dby d) (d * 2 ^ dby d) 5)
  have z3 := gPair_one (goldP (n * 2 ^ dby d) (d * 2 ^ dby d) 5)
  have e5 : gPair (goldP (n * 2 ^ dby d) (d * 2 ^ dby d) 5) = wc 8 (goldP (n * 2 ^ dby d) (d * 2 ^ dby d) 5).1 ++ wc 8 (goldP (n * 2 ^ dby d) (d * 2 ^ dby d) 5).2 := rfl
  rw [e5] at z2 z3 hp
  clear e5 m1 m2 m3 hm hc he hr hn hd
  generalize (goldP (n * 2 ^ dby d) (d * 2 ^ dby d) 5).1 = g5 at *
  generalize (goldP (n * 2 ^ dby d) (d * 2 ^ dby d) 5).2 = h5 at *
  generalize romF = cf at *
  generalize ptrC br = pc at *
  go_enter Tryz.func196, Tryz.ntmps196
  go_wp2_with ((first | (refine kf gf84 hst (hmay) rfl rfl rfl rfl ?_; clear hst; intro w hst) | (refine kT gf197 hst (fun w hst => hp w (hst.own _ _ (by repeat (first | exact List.Mem.head _ | refine List.Mem.tail _ ?_))) (hst.own _ _ (by repeat (first | exact List.Mem.head _ | refine List.Mem.tail _ ?_)))) rfl rfl rfl rfl ?_; clear hst; intro w hst) | (refine kb 5 hst rfl rfl ?_; clear hst; intro b5 w hb5 hst) | (refine kb 6 hst rfl rfl ?_; clear hst; intro b6 w hb6 hst) | (refine ka 8 hst tz24 rfl rfl ?_; clear hst; intro b8 w hb8 hst) | (refine ka 9 hst tz24 rfl rfl ?_; clear hst; intro b9 w hb9 hst) | (refine kl hst ta24 rfl ?_) | (refine klm hst ta24 rfl ?_) | (refine kt hst ta24 rfl rfl ?_; clear hst; intro w hst) | (refine ktm hst ta24 rfl rfl ?_; clear hst; intro w hst) | (refine ka 12 hst tz235 rfl rfl ?_; clear hst; intro b12 w hb12 hst) | (refine kt hst ta235 rfl rfl ?_; clear hst; intro w hst) | (refine ktm hst ta235 rfl rfl ?_; clear hst; intro w hst)); try simp only [pz, pn, sz, sc])
  refine wp_region_TV 7 [(b12, .cells (wc 8 g5 ++ wc 8 h5) 235)] hst (by kernel_rfl) ?_; clear hst; intro w hst; (try dsimp only [List.length_cons, List.length_nil]); (try simp only [List.length_cons, List.length_nil, Nat.reduceAdd, Array.replicate_succ, Array.replicate_zero, List.push_toArray, List.nil_append, List.cons_append])
  refine r0 0 ?_; simp only [pz, pn, sz, sc]
  refine r0 2 ?_; simp only [pz, pn, sz, sc]
  refine rl 1 rfl ?_ (by first | exact ylA ta24 | exact ylM ta24); simp only [pz, pn, sz, sc]
  refine rl 3 rfl ?_ (by first | exact ylA ta24 | exact ylM ta24); simp only [pz, pn, sz, sc]
  refine r1 4 ?_; (first | (refine kt hst ta24 rfl rfl ?_; clear hst; intro w hst) | (refine ktm hst ta24 rfl rfl ?_; clear hst; intro w hst)); (try simp only [pz, pn, sz, sc]); refine re ?_
  refine r1 5 ?_; (first | (refine kt hst ta24 rfl rfl ?_; clear hst; intro w hst) | (refine ktm hst ta24 rfl rfl ?_; clear hst; intro w hst)); (try simp only [pz, pn, sz, sc]); refine re ?_
  refine r0 6 ?_; simp only [pz, pn, sz, sc]
  refine rd_ ?_
  go_wp2_with ((first | (refine kb 5 hst rfl rfl ?_; clear hst; intro b5 w hb5 hst) | (refine kb 6 hst rfl rfl ?_; clear hst; intro b6 w hb6 hst) | (refine ka 8 hst tz24 rfl rfl ?_; clear hst; intro b8 w hb8 hst) | (refine ka 9 hst tz24 rfl rfl ?_; clear hst; intro b9 w hb9 hst) | (refine kl hst ta24 rfl ?_) | (refine klm hst ta24 rfl ?_) | (refine kt hst ta24 rfl rfl ?_; clear hst; intro w hst) | (refine ktm hst ta24 rfl rfl ?_; clear hst; intro w hst) | (refine ka 12 hst tz235 rfl rfl ?_; clear hst; intro b12 w hb12 hst) | (refine kt hst ta235 rfl rfl ?_; clear hst; intro w hst) | (refine ktm hst ta235 rfl rfl ?_; clear hst; intro w hst)); try simp only [pz, pn, sz, sc])
  refine bp_cct rfl rfl (la hst ta24) (la hst ta24) (by rfl) ⟨?_, hst.keeps, own_one (hst.own _ _ (by simp))⟩
  rfl

def quoQ (n d : Nat) : Nat := if mayE n d = 0 then n / d else 0
def quoM (n d : Nat) : Nat := if mayE n d = 0 then n % d else 0
/-- The rom behind a quotient. -/
def romD (n d : Nat) (c : Array Value) : Array Value := if mayE n d = 0 then romF else c
theorem romD_ok {n d : Nat} {c : Array Value} (h : RomOk c) : RomOk (romD n d c) := by unfold romD; split; exact Or.inr rfl; exact h

set_option maxHeartbeats 8000000 in
theorem gold_Divide (be br : Nat) (c : Array Value) (hc : RomOk c) (hne : be ≠ br) (n d : Nat) (hn : n < M) (hd : d < M) (w0 : World) (he : w0.heap[be]? = some (.cells (ptrC br) 106)) (hr : w0.heap[br]? = some (.cells c 92)) :
    GivesT Tryz.prog 194 #[.pointer (some ⟨be, 0, none⟩), W n, W d] (.tuple #[W (quoQ n d), W (quoM n d), .int .i64 (mayE n d : Nat)]) [(br, .cells c 92)] [(br, .cells (romD n d c) 92)] w0 := by
  have hst := St.eng hne he hr
  have hlt := lt_of_some he
  have hltr := lt_of_some hr
  unfold quoQ quoM romD
  by_cases hm : mayE n d = 0
  · rw [if_pos hm, if_pos hm, if_pos hm]
    obtain ⟨m1, m2, m3⟩ := mayE_ok hm
    obtain ⟨d1, d2⟩ := dnorm m1 m2
    have hN : n * 2 ^ dby d < d * 2 ^ dby d * K := by
      have := Nat.mul_lt_mul_of_pos_right m3 (show 0 < 2 ^ dby d from Nat.pow_pos (by omega))
      rw [show K = 2 ^ 128 from rfl, Nat.mul_assoc d, Nat.mul_comm (2 ^ dby d), ← Nat.mul_assoc]; exact this
    have hlast := gold_last _ _ d1 d2 hN
    rw [Nat.mul_div_mul_right _ _ (show 0 < 2 ^ dby d from Nat.pow_pos (by omega))] at hlast
    have hfix := fix_Quotient n d ((goldP (n * 2 ^ dby d) (d * 2 ^ dby d) 5).1 / 2 ^ 32) 4 hn m1 m2 m3 hlast.1 hlast.2 (by omega) (by omega)
    have hg5 := (goldP_small _ _ d1 d2 hN 5 (by omega)).1
    have hshr := wide_Shr (goldP (n * 2 ^ dby d) (d * 2 ^ dby d) 5).1 32 (Nat.lt_of_le_of_lt hg5 (small_M (by decide)))
    rw [show clampN 32 = 32 from rfl] at hshr
    have hp := fun (w : World) (q1 : w.heap[be]? = some (.cells (ptrC br) 106)) (q2 : w.heap[br]? = some (.cells c 92)) => gold_Pair be br c hc hne n d hn hd hm w q1 q2
    rw [hm]
    clear m1 m2 m3 d1 d2 hN hlast hg5 hm hc he hr hn hd
    generalize off ((goldP (n * 2 ^ dby d) (d * 2 ^ dby d) 5).1 / 2 ^ 32) (n / d) = x at *
    generalize (goldP (n * 2 ^ dby d) (d * 2 ^ dby d) 5).1 / 2 ^ 32 = g at *
    generalize (goldP (n * 2 ^ dby d) (d * 2 ^ dby d) 5).1 = g5 at *
    generalize (goldP (n * 2 ^ dby d) (d * 2 ^ dby d) 5).2 = h5 at *
    generalize n / d = q at *
    generalize n % d = r at *
    generalize romF = cf at *
    generalize ptrC br = pc at *
    go_enter Tryz.func194, Tryz.ntmps194
    go_wp2_with ((first | (refine kT gf196 hst (fun w hst => hp w (hst.own _ _ (by repeat (first | exact List.Mem.head _ | refine List.Mem.tail _ ?_))) (hst.own _ _ (by repeat (first | exact List.Mem.head _ | refine List.Mem.tail _ ?_)))) rfl rfl rfl rfl ?_; clear hst; intro w hst) | (refine kf gf123 hst (hshr) rfl rfl rfl rfl ?_; clear hst; intro w hst) | (refine kf gf160 hst (hfix) rfl rfl rfl rfl ?_; clear hst; intro w hst) | (refine kb 4 hst rfl rfl ?_; clear hst; intro b4 w hb4 hst) | (refine kb 5 hst rfl rfl ?_; clear hst; intro b5 w hb5 hst) | (refine ka 6 hst tz24 rfl rfl ?_; clear hst; intro b6 w hb6 hst) | (refine ka 7 hst tz24 rfl rfl ?_; clear hst; intro b7 w hb7 hst) | (refine kl hst ta24 rfl ?_) | (refine klm hst ta24 rfl ?_) | (refine ka 9 hst tz24 rfl rfl ?_; clear hst; intro b9 w hb9 hst) | (refine ka 10 hst tz24 rfl rfl ?_; clear hst; intro b10 w hb10 hst) | (refine kt hst ta24 rfl rfl ?_; clear hst; intro w hst) | (refine ktm hst ta24 rfl rfl ?_; clear hst; intro w hst) | (refine ka 12 hst tz24 rfl rfl ?_; clear hst; intro b12 w hb12 hst) | (refine ka 14 hst tz24 rfl rfl ?_; clear hst; intro b14 w hb14 hst) | (refine ka 15 hst tz24 rfl rfl ?_; clear hst; intro b15 w hb15 hst)); try simp only [pz, pn, sz, sc])
    refine wp_region_TV 6 [(b15, .cells (wc 8 r) 24), (b14, .cells (wc 8 q) 24)] hst (by kernel_rfl) ?_; clear hst; intro w hst; (try dsimp only [List.length_cons, List.length_nil]); (try simp only [List.length_cons, List.length_nil, Nat.reduceAdd, Array.replicate_succ, Array.replicate_zero, List.push_toArray, List.nil_append, List.cons_append])
    refine r0 2 ?_; simp only [pz, pn, sz, sc]
    refine rl 0 rfl ?_ (by first | exact ylA ta24 | exact ylM ta24); simp only [pz, pn, sz, sc]
    refine rl 1 rfl ?_ (by first | exact ylA ta24 | exact ylM ta24); simp only [pz, pn, sz, sc]
    refine r1 3 ?_; (first | (refine kt hst ta24 rfl rfl ?_; clear hst; intro w hst) | (refine ktm hst ta24 rfl rfl ?_; clear hst; intro w hst)); (try simp only [pz, pn, sz, sc]); refine re ?_
    refine r1 4 ?_; (first | (refine kt hst ta24 rfl rfl ?_; clear hst; intro w hst) | (refine ktm hst ta24 rfl rfl ?_; clear hst; intro w hst)); (try simp only [pz, pn, sz, sc]); refine re ?_
    refine r0 5 ?_; simp only [pz, pn, sz, sc]
    refine rd_ ?_
    go_wp2_with ((first | (refine kb 4 hst rfl rfl ?_; clear hst; intro b4 w hb4 hst) | (refine kb 5 hst rfl rfl ?_; clear hst; intro b5 w hb5 hst) | (refine ka 6 hst tz24 rfl rfl ?_; clear hst; intro b6 w hb6 hst) | (refine ka 7 hst tz24 rfl rfl ?_; clear hst; intro b7 w hb7 hst) | (refine kl hst ta24 rfl ?_) | (refine klm hst ta24 rfl ?_) | (refine ka 9 hst tz24 rfl rfl ?_; clear hst; intro b9 w hb9 hst) | (refine ka 10 hst tz24 rfl rfl ?_; clear hst; intro b10 w hb10 hst) | (refine kt hst ta24 rfl rfl ?_; clear hst; intro w hst) | (refine ktm hst ta24 rfl rfl ?_; clear hst; intro w hst) | (refine ka 12 hst tz24 rfl rfl ?_; clear hst; intro b12 w hb12 hst) | (refine ka 14 hst tz24 rfl rfl ?_; clear hst; intro b14 w hb14 hst) | (refine ka 15 hst tz24 rfl rfl ?_; clear hst; intro b15 w hb15 hst)); try simp only [pz, pn, sz, sc])
    refine bp_cct rfl rfl (la hst ta24) (la hst ta24) (by rfl) ⟨?_, hst.keeps, own_one (hst.own _ _ (by simp))⟩
    rfl
  · rw [if_neg hm, if_neg hm, if_neg hm]
    have hp := gold_Pair_no be n d hn hd hm
    generalize mayE n d = e at *
    have Q0 : ((e : Int) == 0) = false := by simp; omega
    clear hm hc he hr hn hd
    go_enter Tryz.func194, Tryz.ntmps194
    go_wp2_with ((first | (refine kf gf196 hst (hp) rfl rfl rfl rfl ?_; clear hst; intro w hst) | (refine kb 4 hst rfl rfl ?_; clear hst; intro b4 w hb4 hst) | (refine kb 5 hst rfl rfl ?_; clear hst; intro b5 w hb5 hst) | (refine ka 6 hst tz24 rfl rfl ?_; clear hst; intro b6 w hb6 hst) | (refine ka 7 hst tz24 rfl rfl ?_; clear hst; intro b7 w hb7 hst) | (refine kl hst ta24 rfl ?_) | (refine klm hst ta24 rfl ?_) | (refine ka 9 hst tz24 rfl rfl ?_; clear hst; intro b9 w hb9 hst) | (refine ka 10 hst tz24 rfl rfl ?_; clear hst; intro b10 w hb10 hst) | (refine kt hst ta24 rfl rfl ?_; clear hst; intro w hst) | (refine ktm hst ta24 rfl rfl ?_; clear hst; intro w hst) | (refine ka 12 hst tz24 rfl rfl ?_; clear hst; intro b12 w hb12 hst) | (refine ka 14 hst tz24 rfl rfl ?_; clear hst; intro b14 w hb14 hst) | (refine ka 15 hst tz24 rfl rfl ?_; clear hst; intro b15 w hb15 hst)); try simp only [pz, pn, sz, sc])
    refine bp_cct rfl rfl (la hst ta24) (la hst ta24) (by rfl) ⟨?_, hst.keeps, own_one (hst.own _ _ (by simp))⟩
    rw [W_zero]; rfl

end Go.Proofs.YtggchelniblipaaGreatDoor.Rd
