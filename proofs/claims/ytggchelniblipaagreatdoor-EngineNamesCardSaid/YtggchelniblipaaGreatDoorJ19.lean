/- What rom.New, newton.New, .., goldroot.New, engine.New answer. -/
import Derived.Test.YtggchelniblipaaGreatDoorJ18
namespace Go.Proofs.YtggchelniblipaaGreatDoor.Rd
open Go Go.RowKit
set_option linter.unusedVariables false
set_option linter.unusedSimpArgs false
set_option maxRecDepth 100000

theorem gPair_size (p : Nat × Nat) : (gPair p).size = 16 := by simp [gPair]
theorem gPair_one (p : Nat × Nat) : OneC (gPair p) := app_one _ _

set_option maxHeartbeats 8000000 in
theorem groot_first (br : Nat) (c : Array Value) (hc : RomOk c) (n : Nat) (h1 : 2 ^ 254 ≤ n) (h2 : n < 2 ^ 256) (w0 : World) (hr : w0.heap[br]? = some (.cells c 92)) :
    GivesT Tryz.prog 200 #[.agg #[.pointer (some ⟨br, 0, none⟩)], W n] (.agg (gPair (goldS n 0))) [(br, .cells c 92)] [(br, .cells romF 92)] w0 := by
  have hst := (St.start [br] w0).add hr (by simp)
  have hltr := lt_of_some hr
  have hg := fun (w : World) (h : w.heap[br]? = some (.cells c 92)) => rom_GuessRoot br c hc n h1 h2 w h
  have hv := rguess_le n h1 h2
  show GivesT _ _ _ (.agg (wc 8 (n * rguessAt (n / 2 ^ 249) / 2 ^ 105) ++ wc 8 (rguessAt (n / 2 ^ 249) * 2 ^ 150))) _ _ _
  clear hr hc h1
  generalize rguessAt (n / 2 ^ 249) = v at *
  have hvB : v < B := by rw [B_val]; omega
  have hof := of_u64 v hvB
  have h1' := Lib.hid (wc_1 v hvB)
  have hvM : v < M := small_M (by omega)
  have hnM : n < M := small_M (by omega)
  have hshl := wide_Shl v 150 hvM
  rw [show clampN 150 = 150 from rfl, Nat.mod_eq_of_lt (small_M (by omega))] at hshl
  have hti := fix_Times n v 105 hnM hvM (by omega) (by
    refine Nat.lt_of_le_of_lt (Nat.div_le_self _ _) (Nat.lt_of_le_of_lt (Nat.mul_le_mul (Nat.le_of_lt h2) (show v ≤ 2 ^ 10 by omega)) (pow_sq_M 256 10 (by omega))))
  clear h2 hnM hvM hv
  generalize n * v / 2 ^ 105 = x at *
  generalize v * 2 ^ 150 = y at *
  generalize romF = cf at *
  have k2 : (wc 8 x ++ wc 8 y).size = 16 := by simp
  have k3 := app_one x y
  go_enter Tryz.func200, Tryz.ntmps200
  go_wp2_with ((first | (refine kT gf192 hst (fun w hst => hg w (hst.own _ _ (by simp))) rfl rfl rfl rfl ?_; clear hst; intro w hst) | (refine kb 2 hst rfl rfl ?_; clear hst; intro b2 w hb2 hst) | (refine kb 3 hst rfl rfl ?_; clear hst; intro b3 w hb3 hst) | (refine ka 4 hst tz241 rfl rfl ?_; clear hst; intro b4 w hb4 hst) | (refine kc hst tc56 rfl ?_) | (refine kl hst ta24 rfl ?_) | (refine klm hst ta24 rfl ?_) | (refine wl_slice1 (o := ⟨some 16, _, _, _, _, _⟩) hst ts148 te22 rfl rfl (by (simp only [eval_lit, eval_k, eval_f, eval_g, List.getD_cons_succ, List.getD_cons_zero]) <;> rfl) (by rfl) ?_; clear hst; intro b16 w hb16 hst) | (refine wl_slice1 (o := ⟨some 20, _, _, _, _, _⟩) hst ts148 te22 rfl rfl (by (simp only [eval_lit, eval_k, eval_f, eval_g, List.getD_cons_succ, List.getD_cons_zero]) <;> rfl) (by rfl) ?_; clear hst; intro b20 w hb20 hst) | (refine kB (tb241_01 _ _) rfl ?_) | (refine kt hst ta241 rfl rfl ?_; clear hst; intro w hst) | (refine ktm hst ta241 rfl rfl ?_; clear hst; intro w hst)); try simp only [pz, pn, sz, sc])
  refine wp_region_T 10  hst (by kernel_rfl) ?_; clear hst; intro w hst; (try dsimp only [List.length_cons, List.length_nil]); (try simp only [List.length_cons, List.length_nil, Nat.reduceAdd, Array.replicate_succ, Array.replicate_zero, List.push_toArray, List.nil_append, List.cons_append])
  refine r0 1 ?_; simp only [pz, pn, sz, sc]
  refine r0 5 ?_; simp only [pz, pn, sz, sc]
  refine rl 0 rfl ?_ (by first | exact ylA ta24 | exact ylM ta24); simp only [pz, pn, sz, sc]
  refine r2 2 6 ?_ ?_
  (refine wl_slice1 (o := ⟨some 16, _, _, _, _, _⟩) hst ts148 te22 rfl rfl (by (simp only [eval_lit, eval_k, eval_f, eval_g, List.getD_cons_succ, List.getD_cons_zero]) <;> rfl) (by rfl) ?_; clear hst; intro b16 w hb16 hst); (try simp only [pz, pn, sz, sc]); refine re ?_
  refine r2 3 6 ?_ ?_
  (first | (refine kg gf88 hst (fun w hst => hof _ w (by rw [← h1'.out]; exact hst.own _ _ (by repeat (first | exact List.Mem.head _ | refine List.Mem.tail _ ?_)))) rfl rfl rfl rfl ?_; clear hst; intro w hst) | (refine kf gf167 hst (hti) rfl rfl rfl rfl ?_; clear hst; intro w hst) | (refine kf gf94 hst (hshl) rfl rfl rfl rfl ?_; clear hst; intro w hst) | (refine kp ?_)); (try simp only [pz, pn, sz, sc]); refine re ?_
  refine r2 4 6 ?_ ?_
  (first | (refine kg gf88 hst (fun w hst => hof _ w (by rw [← h1'.out]; exact hst.own _ _ (by repeat (first | exact List.Mem.head _ | refine List.Mem.tail _ ?_)))) rfl rfl rfl rfl ?_; clear hst; intro w hst) | (refine kf gf167 hst (hti) rfl rfl rfl rfl ?_; clear hst; intro w hst) | (refine kf gf94 hst (hshl) rfl rfl rfl rfl ?_; clear hst; intro w hst) | (refine kp ?_)); (try simp only [pz, pn, sz, sc]); refine re ?_
  refine r1 6 ?_; (refine wl_slice1 (o := ⟨some 20, _, _, _, _, _⟩) hst ts148 te22 rfl rfl (by (simp only [eval_lit, eval_k, eval_f, eval_g, List.getD_cons_succ, List.getD_cons_zero]) <;> rfl) (by rfl) ?_; clear hst; intro b20 w hb20 hst); (try simp only [pz, pn, sz, sc]); refine re ?_
  refine r1 7 ?_; (first | (refine kg gf88 hst (fun w hst => hof _ w (by rw [← h1'.out]; exact hst.own _ _ (by repeat (first | exact List.Mem.head _ | refine List.Mem.tail _ ?_)))) rfl rfl rfl rfl ?_; clear hst; intro w hst) | (refine kf gf167 hst (hti) rfl rfl rfl rfl ?_; clear hst; intro w hst) | (refine kf gf94 hst (hshl) rfl rfl rfl rfl ?_; clear hst; intro w hst) | (refine kp ?_)); (try simp only [pz, pn, sz, sc]); refine re ?_
  refine r1 8 ?_; (first | (refine kg gf88 hst (fun w hst => hof _ w (by rw [← h1'.out]; exact hst.own _ _ (by repeat (first | exact List.Mem.head _ | refine List.Mem.tail _ ?_)))) rfl rfl rfl rfl ?_; clear hst; intro w hst) | (refine kf gf167 hst (hti) rfl rfl rfl rfl ?_; clear hst; intro w hst) | (refine kf gf94 hst (hshl) rfl rfl rfl rfl ?_; clear hst; intro w hst) | (refine kp ?_)); (try simp only [pz, pn, sz, sc]); refine re ?_
  refine r0 9 ?_ (hy := yB (tb241_01 _ _)); simp only [pz, pn, sz, sc]
  refine r1 10 ?_; (first | (refine kt hst ta241 rfl rfl ?_; clear hst; intro w hst) | (refine ktm hst ta241 rfl rfl ?_; clear hst; intro w hst)); (try simp only [pz, pn, sz, sc]); refine re ?_
  refine rd_ ?_
  rotate_left 1
  (refine wl_slice1 (o := ⟨some 20, _, _, _, _, _⟩) hst ts148 te22 rfl rfl (by (simp only [eval_lit, eval_k, eval_f, eval_g, List.getD_cons_succ, List.getD_cons_zero]) <;> rfl) (by rfl) ?_; clear hst; intro b20 w hb20 hst); (try simp only [pz, pn, sz, sc]); refine re ?_
  refine r1 4 ?_; (first | (refine kg gf88 hst (fun w hst => hof _ w (by rw [← h1'.out]; exact hst.own _ _ (by repeat (first | exact List.Mem.head _ | refine List.Mem.tail _ ?_)))) rfl rfl rfl rfl ?_; clear hst; intro w hst) | (refine kf gf167 hst (hti) rfl rfl rfl rfl ?_; clear hst; intro w hst) | (refine kf gf94 hst (hshl) rfl rfl rfl rfl ?_; clear hst; intro w hst) | (refine kp ?_)); (try simp only [pz, pn, sz, sc]); refine re ?_
  refine r1 7 ?_; (first | (refine kg gf88 hst (fun w hst => hof _ w (by rw [← h1'.out]; exact hst.own _ _ (by repeat (first | exact List.Mem.head _ | refine List.Mem.tail _ ?_)))) rfl rfl rfl rfl ?_; clear hst; intro w hst) | (refine kf gf167 hst (hti) rfl rfl rfl rfl ?_; clear hst; intro w hst) | (refine kf gf94 hst (hshl) rfl rfl rfl rfl ?_; clear hst; intro w hst) | (refine kp ?_)); (try simp only [pz, pn, sz, sc]); refine re ?_
  refine r1 8 ?_; (first | (refine kg gf88 hst (fun w hst => hof _ w (by rw [← h1'.out]; exact hst.own _ _ (by repeat (first | exact List.Mem.head _ | refine List.Mem.tail _ ?_)))) rfl rfl rfl rfl ?_; clear hst; intro w hst) | (refine kf gf167 hst (hti) rfl rfl rfl rfl ?_; clear hst; intro w hst) | (refine kf gf94 hst (hshl) rfl rfl rfl rfl ?_; clear hst; intro w hst) | (refine kp ?_)); (try simp only [pz, pn, sz, sc]); refine re ?_
  refine r0 9 ?_ (hy := yB (tb241_01 _ _)); simp only [pz, pn, sz, sc]
  refine r1 10 ?_; (first | (refine kt hst ta241 rfl rfl ?_; clear hst; intro w hst) | (refine ktm hst ta241 rfl rfl ?_; clear hst; intro w hst)); (try simp only [pz, pn, sz, sc]); refine re ?_
  refine rd_ ?_
  rotate_right 1
  rotate_left 2
  (refine wl_slice1 (o := ⟨some 20, _, _, _, _, _⟩) hst ts148 te22 rfl rfl (by (simp only [eval_lit, eval_k, eval_f, eval_g, List.getD_cons_succ, List.getD_cons_zero]) <;> rfl) (by rfl) ?_; clear hst; intro b20 w hb20 hst); (try simp only [pz, pn, sz, sc]); refine re ?_
  refine r1 3 ?_; (first | (refine kg gf88 hst (fun w hst => hof _ w (by rw [← h1'.out]; exact hst.own _ _ (by repeat (first | exact List.Mem.head _ | refine List.Mem.tail _ ?_)))) rfl rfl rfl rfl ?_; clear hst; intro w hst) | (refine kf gf167 hst (hti) rfl rfl rfl rfl ?_; clear hst; intro w hst) | (refine kf gf94 hst (hshl) rfl rfl rfl rfl ?_; clear hst; intro w hst) | (refine kp ?_)); (try simp only [pz, pn, sz, sc]); refine re ?_
  refine r1 4 ?_; (first | (refine kg gf88 hst (fun w hst => hof _ w (by rw [← h1'.out]; exact hst.own _ _ (by repeat (first | exact List.Mem.head _ | refine List.Mem.tail _ ?_)))) rfl rfl rfl rfl ?_; clear hst; intro w hst) | (refine kf gf167 hst (hti) rfl rfl rfl rfl ?_; clear hst; intro w hst) | (refine kf gf94 hst (hshl) rfl rfl rfl rfl ?_; clear hst; intro w hst) | (refine kp ?_)); (try simp only [pz, pn, sz, sc]); refine re ?_
  refine r1 7 ?_; (first | (refine kg gf88 hst (fun w hst => hof _ w (by rw [← h1'.out]; exact hst.own _ _ (by repeat (first | exact List.Mem.head _ | refine List.Mem.tail _ ?_)))) rfl rfl rfl rfl ?_; clear hst; intro w hst) | (refine kf gf167 hst (hti) rfl rfl rfl rfl ?_; clear hst; intro w hst) | (refine kf gf94 hst (hshl) rfl rfl rfl rfl ?_; clear hst; intro w hst) | (refine kp ?_)); (try simp only [pz, pn, sz, sc]); refine re ?_
  refine r1 8 ?_; (first | (refine kg gf88 hst (fun w hst => hof _ w (by rw [← h1'.out]; exact hst.own _ _ (by repeat (first | exact List.Mem.head _ | refine List.Mem.tail _ ?_)))) rfl rfl rfl rfl ?_; clear hst; intro w hst) | (refine kf gf167 hst (hti) rfl rfl rfl rfl ?_; clear hst; intro w hst) | (refine kf gf94 hst (hshl) rfl rfl rfl rfl ?_; clear hst; intro w hst) | (refine kp ?_)); (try simp only [pz, pn, sz, sc]); refine re ?_
  refine r0 9 ?_ (hy := yB (tb241_01 _ _)); simp only [pz, pn, sz, sc]
  refine r1 10 ?_; (first | (refine kt hst ta241 rfl rfl ?_; clear hst; intro w hst) | (refine ktm hst ta241 rfl rfl ?_; clear hst; intro w hst)); (try simp only [pz, pn, sz, sc]); refine re ?_
  refine rd_ ?_
  rotate_right 2
  rotate_left 3
  (refine wl_slice1 (o := ⟨some 20, _, _, _, _, _⟩) hst ts148 te22 rfl rfl (by (simp only [eval_lit, eval_k, eval_f, eval_g, List.getD_cons_succ, List.getD_cons_zero]) <;> rfl) (by rfl) ?_; clear hst; intro b20 w hb20 hst); (try simp only [pz, pn, sz, sc]); refine re ?_
  refine r1 2 ?_; (refine wl_slice1 (o := ⟨some 16, _, _, _, _, _⟩) hst ts148 te22 rfl rfl (by (simp only [eval_lit, eval_k, eval_f, eval_g, List.getD_cons_succ, List.getD_cons_zero]) <;> rfl) (by rfl) ?_; clear hst; intro b16 w hb16 hst); (try simp only [pz, pn, sz, sc]); refine re ?_
  refine r1 3 ?_; (first | (refine kg gf88 hst (fun w hst => hof _ w (by rw [← h1'.out]; exact hst.own _ _ (by repeat (first | exact List.Mem.head _ | refine List.Mem.tail _ ?_)))) rfl rfl rfl rfl ?_; clear hst; intro w hst) | (refine kf gf167 hst (hti) rfl rfl rfl rfl ?_; clear hst; intro w hst) | (refine kf gf94 hst (hshl) rfl rfl rfl rfl ?_; clear hst; intro w hst) | (refine kp ?_)); (try simp only [pz, pn, sz, sc]); refine re ?_
  refine r1 4 ?_; (first | (refine kg gf88 hst (fun w hst => hof _ w (by rw [← h1'.out]; exact hst.own _ _ (by repeat (first | exact List.Mem.head _ | refine List.Mem.tail _ ?_)))) rfl rfl rfl rfl ?_; clear hst; intro w hst) | (refine kf gf167 hst (hti) rfl rfl rfl rfl ?_; clear hst; intro w hst) | (refine kf gf94 hst (hshl) rfl rfl rfl rfl ?_; clear hst; intro w hst) | (refine kp ?_)); (try simp only [pz, pn, sz, sc]); refine re ?_
  refine r1 7 ?_; (first | (refine kg gf88 hst (fun w hst => hof _ w (by rw [← h1'.out]; exact hst.own _ _ (by repeat (first | exact List.Mem.head _ | refine List.Mem.tail _ ?_)))) rfl rfl rfl rfl ?_; clear hst; intro w hst) | (refine kf gf167 hst (hti) rfl rfl rfl rfl ?_; clear hst; intro w hst) | (refine kf gf94 hst (hshl) rfl rfl rfl rfl ?_; clear hst; intro w hst) | (refine kp ?_)); (try simp only [pz, pn, sz, sc]); refine re ?_
  refine r1 8 ?_; (first | (refine kg gf88 hst (fun w hst => hof _ w (by rw [← h1'.out]; exact hst.own _ _ (by repeat (first | exact List.Mem.head _ | refine List.Mem.tail _ ?_)))) rfl rfl rfl rfl ?_; clear hst; intro w hst) | (refine kf gf167 hst (hti) rfl rfl rfl rfl ?_; clear hst; intro w hst) | (refine kf gf94 hst (hshl) rfl rfl rfl rfl ?_; clear hst; intro w hst) | (refine kp ?_)); (try simp only [pz, pn, sz, sc]); refine re ?_
  refine r0 9 ?_ (hy := yB (tb241_01 _ _)); simp only [pz, pn, sz, sc]
  refine r1 10 ?_; (first | (refine kt hst ta241 rfl rfl ?_; clear hst; intro w hst) | (refine ktm hst ta241 rfl rfl ?_; clear hst; intro w hst)); (try simp only [pz, pn, sz, sc]); refine re ?_
  refine rd_ ?_
  rotate_right 3
  all_goals
    go_wp2_with ((first | (refine kb 2 hst rfl rfl ?_; clear hst; intro b2 w hb2 hst) | (refine kb 3 hst rfl rfl ?_; clear hst; intro b3 w hb3 hst) | (refine ka 4 hst tz241 rfl rfl ?_; clear hst; intro b4 w hb4 hst) | (refine kc hst tc56 rfl ?_) | (refine kl hst ta24 rfl ?_) | (refine klm hst ta24 rfl ?_) | (refine wl_slice1 (o := ⟨some 16, _, _, _, _, _⟩) hst ts148 te22 rfl rfl (by (simp only [eval_lit, eval_k, eval_f, eval_g, List.getD_cons_succ, List.getD_cons_zero]) <;> rfl) (by rfl) ?_; clear hst; intro b16 w hb16 hst) | (refine wl_slice1 (o := ⟨some 20, _, _, _, _, _⟩) hst ts148 te22 rfl rfl (by (simp only [eval_lit, eval_k, eval_f, eval_g, List.getD_cons_succ, List.getD_cons_zero]) <;> rfl) (by rfl) ?_; clear hst; intro b20 w hb20 hst) | (refine kB (tb241_01 _ _) rfl ?_) | (refine kt hst ta241 rfl rfl ?_; clear hst; intro w hst) | (refine ktm hst ta241 rfl rfl ?_; clear hst; intro w hst)); try simp only [pz, pn, sz, sc])
    first | exact bp_c rfl rfl (la hst ta241) (GivesT.of hst rfl (by simp)) | exact bp_c rfl rfl (la hst ta241) ⟨rfl, hst.keeps, own_one (hst.own _ _ (by simp))⟩

set_option maxHeartbeats 8000000 in
theorem groot_steps (n : Nat) (h1 : 2 ^ 254 ≤ n) (h2 : n < 2 ^ 256) : Gives Tryz.prog 202 #[.agg (gPair (goldS n 0)), .int .i64 5] (.agg (gPair (goldS n 5))) := by
  intro w0
  have hst := St.start [] w0
  have hnx := Lib.hid (fun k (hk : k < 5) => (show Gives Tryz.prog 203 #[.agg (gPair (goldS n k))] (.agg (gPair (goldS n (k + 1)))) by
    have I := gold_near n h1 (by rw [show K * K = 2 ^ 256 by decide]; exact h2) k (by omega)
    have hs := I.small (by omega)
    exact gold_next _ _ hs.1 hs.2 (gold_fac _ _ _ (gds_le k (by omega)) I.hE).1))
  have z0 := gPair_size (goldS n 0)
  have z1 := gPair_one (goldS n 0)
  clear h1 h2
  go_enter Tryz.func202, Tryz.ntmps202
  go_wp2_with ((first | (refine kb 2 hst rfl rfl ?_; clear hst; intro b2 w hb2 hst) | (refine ka 4 hst tz241 rfl rfl ?_; clear hst; intro b4 w hb4 hst) | (refine kl hst ta241 rfl ?_) | (refine klm hst ta241 rfl ?_) | (refine kt hst ta241 rfl rfl ?_; clear hst; intro w hst) | (refine ktm hst ta241 rfl rfl ?_; clear hst; intro w hst)); try simp only [pz, pn, sz, sc])
  go_loopw [7] (fun i wr => ∃ k : Nat, k ≤ 5 ∧ i = .int .i64 k ∧ ∃ cs4 : Array Value, cs4.size = 16 ∧ St w0 [] [(b4, .cells cs4 241), (b2, .cells (gPair (goldS n k)) 241)] wr) (fun i _ => 5 - (intOf i).toNat)
  case atStart => exact ⟨0, by omega, rfl, _, by kernel_rfl, hst.sub (by repeat (first | exact List.Sublist.refl _ | exact List.nil_sublist _ | refine List.Sublist.cons_cons _ ?_ | refine List.Sublist.cons _ ?_))⟩
  case round =>
    clear hst
    obtain ⟨k, hk, rfl, cs4, hcs4, hst⟩ := hrel
    have z0 := gPair_size (goldS n k)
    have z1 := gPair_one (goldS n k)
    by_cases hlt : k < 5
    · have hi5 : (k : Int) < 5 := by omega
      have hn := hnx.out k hlt
      have z2 := gPair_size (goldS n (k + 1))
      have z3 := gPair_one (goldS n (k + 1))
      go_wp2_with ((first | (refine kfV gf203 hst hn rfl rfl rfl rfl ?_; clear hst; intro w hst) | (refine kb 2 hst rfl rfl ?_; clear hst; intro b2 w hb2 hst) | (refine ka 4 hst tz241 rfl rfl ?_; clear hst; intro b4 w hb4 hst) | (refine kl hst ta241 rfl ?_) | (refine klm hst ta241 rfl ?_) | (refine kt hst ta241 rfl rfl ?_; clear hst; intro w hst) | (refine ktm hst ta241 rfl rfl ?_; clear hst; intro w hst)); try simp only [pz, pn, sz, sc])
      go_roundw
      case rel => exact ⟨k + 1, by omega, by go_num, cs4, hcs4, hst.sub (by repeat (first | exact List.Sublist.refl _ | exact List.nil_sublist _ | refine List.Sublist.cons_cons _ ?_ | refine List.Sublist.cons _ ?_))⟩
      case measure => simp [intOf]; omega
    · have : k = 5 := by omega
      subst this
      go_wp2_with ((first | (refine kb 2 hst rfl rfl ?_; clear hst; intro b2 w hb2 hst) | (refine ka 4 hst tz241 rfl rfl ?_; clear hst; intro b4 w hb4 hst) | (refine kl hst ta241 rfl ?_) | (refine klm hst ta241 rfl ?_) | (refine kt hst ta241 rfl rfl ?_; clear hst; intro w hst) | (refine ktm hst ta241 rfl rfl ?_; clear hst; intro w hst)); try simp only [pz, pn, sz, sc])
      refine bp_c rfl rfl (la hst ta241) ⟨?_, hst.keeps⟩
      rfl

end Go.Proofs.YtggchelniblipaaGreatDoor.Rd

namespace Go.Proofs.YtggchelniblipaaGreatDoor.Rd
open Go Go.RowKit
set_option linter.unusedVariables false
set_option linter.unusedSimpArgs false
set_option maxRecDepth 100000

set_option maxHeartbeats 8000000 in
theorem groot_Pair_no (be : Nat) (n e : Nat) (hn : n < M) (he : (n = 0 ∧ e = 5) ∨ (2 ^ 256 ≤ n ∧ e = 4)) : Gives Tryz.prog 201 #[.pointer (some ⟨be, 0, none⟩), W n, .int .i64 5] (.tuple #[W 0, W 0, .int .i64 e]) := by
  intro w0
  have hst := St.start [] w0
  have hlen := wide_Len n hn
  rcases he with ⟨rfl, rfl⟩ | ⟨h, rfl⟩
  · have hnorm := srtroot_Norm_zero
    rw [bl_zero] at hlen
    go_enter Tryz.func201, Tryz.ntmps201
    go_wp2_with ((first | (refine kf gf124 hst (hnorm) rfl rfl rfl rfl ?_; clear hst; intro w hst) | (refine kf gf92 hst (hlen) rfl rfl rfl rfl ?_; clear hst; intro w hst) | (refine wl_guard (by rfl) ?_) | (refine kb 4 hst rfl rfl ?_; clear hst; intro b4 w hb4 hst) | (refine ka 6 hst tz24 rfl rfl ?_; clear hst; intro b6 w hb6 hst) | (refine ka 7 hst tz24 rfl rfl ?_; clear hst; intro b7 w hb7 hst) | (refine kl hst ta24 rfl ?_) | (refine klm hst ta24 rfl ?_) | (refine ka 9 hst tz24 rfl rfl ?_; clear hst; intro b9 w hb9 hst) | (refine kt hst ta24 rfl rfl ?_; clear hst; intro w hst) | (refine ktm hst ta24 rfl rfl ?_; clear hst; intro w hst) | (refine kl hst ta108 rfl ?_) | (refine klm hst ta108 rfl ?_) | (refine ka 13 hst tz241 rfl rfl ?_; clear hst; intro b13 w hb13 hst) | (refine kt hst ta241 rfl rfl ?_; clear hst; intro w hst) | (refine ktm hst ta241 rfl rfl ?_; clear hst; intro w hst)); try simp only [pz, pn, sz, sc])
    refine bp_cct rfl rfl (la hst ta24) (la hst ta24) (by rfl) ⟨?_, hst.keeps⟩
    rw [W_zero]; rfl
  · have hnorm := srtroot_Norm_big n (by omega) hn
    have hbl : (256 : Int) < (bl n : Int) := by
      rcases Nat.lt_or_ge 256 (bl n) with h' | h'
      · omega
      · exact absurd (bl_le.1 h') (by omega)
    clear h
    generalize bl n = k at *
    go_enter Tryz.func201, Tryz.ntmps201
    go_wp2_with ((first | (refine kf gf124 hst (hnorm) rfl rfl rfl rfl ?_; clear hst; intro w hst) | (refine kf gf92 hst (hlen) rfl rfl rfl rfl ?_; clear hst; intro w hst) | (refine wl_guard (by rfl) ?_) | (refine kb 4 hst rfl rfl ?_; clear hst; intro b4 w hb4 hst) | (refine ka 6 hst tz24 rfl rfl ?_; clear hst; intro b6 w hb6 hst) | (refine ka 7 hst tz24 rfl rfl ?_; clear hst; intro b7 w hb7 hst) | (refine kl hst ta24 rfl ?_) | (refine klm hst ta24 rfl ?_) | (refine ka 9 hst tz24 rfl rfl ?_; clear hst; intro b9 w hb9 hst) | (refine kt hst ta24 rfl rfl ?_; clear hst; intro w hst) | (refine ktm hst ta24 rfl rfl ?_; clear hst; intro w hst) | (refine kl hst ta108 rfl ?_) | (refine klm hst ta108 rfl ?_) | (refine ka 13 hst tz241 rfl rfl ?_; clear hst; intro b13 w hb13 hst) | (refine kt hst ta241 rfl rfl ?_; clear hst; intro w hst) | (refine ktm hst ta241 rfl rfl ?_; clear hst; intro w hst)); try simp only [pz, pn, sz, sc])
    refine bp_cct rfl rfl (la hst ta24) (la hst ta24) (by rfl) ⟨?_, hst.keeps⟩
    rw [W_zero]; rfl

set_option maxHeartbeats 8000000 in
theorem groot_Pair (be br : Nat) (c : Array Value) (hc : RomOk c) (hne : be ≠ br) (n : Nat) (h0 : n ≠ 0) (h : n < 2 ^ 256) (hn : n < M) (w0 : World) (he : w0.heap[be]? = some (.cells #[.pointer (some ⟨br, 0, none⟩)] 110)) (hr : w0.heap[br]? = some (.cells c 92)) :
    GivesT Tryz.prog 201 #[.pointer (some ⟨be, 0, none⟩), W n, .int .i64 5] (.tuple #[W (goldS (n * 2 ^ nby n) 5).1, W (goldS (n * 2 ^ nby n) 5).2, .int .i64 0]) [(br, .cells c 92)] [(br, .cells romF 92)] w0 := by
  have hst := St.eng hne he hr
  have hlt := lt_of_some he
  have hltr := lt_of_some hr
  have hnorm := srtroot_Norm n h0 h hn
  have hlen := wide_Len n hn
  have hbl : ¬ (256 : Int) < (bl n : Int) := by have := bl_le.2 h; omega
  obtain ⟨u1, u2⟩ := norm_up n h0 h
  have hfi := fun (w : World) (q : w.heap[br]? = some (.cells c 92)) => groot_first br c hc _ u1 u2 w q
  have hst5 := groot_steps _ u1 u2
  clear u1 u2 h h0 hc he hr
  have z0 := gPair_size (goldS (n * 2 ^ nby n) 0)
  have z1 := gPair_one (goldS (n * 2 ^ nby n) 0)
  have z2 := gPair_size (goldS (n * 2 ^ nby n) 5)
  have z3 := gPair_one (goldS (n * 2 ^ nby n) 5)
  have e5 : gPair (goldS (n * 2 ^ nby n) 5) = wc 8 (goldS (n * 2 ^ nby n) 5).1 ++ wc 8 (goldS (n * 2 ^ nby n) 5).2 := rfl
  rw [e5] at z2 z3 hst5
  clear e5
  generalize (goldS (n * 2 ^ nby n) 5).1 = g5 at *
  generalize (goldS (n * 2 ^ nby n) 5).2 = h5 at *
  generalize gPair (goldS (n * 2 ^ nby n) 0) = p0 at *
  generalize n * 2 ^ nby n = up at *
  generalize romF = cf at *
  generalize bl n = k at *
  go_enter Tryz.func201, Tryz.ntmps201
  go_wp2_with ((first | (refine kf gf124 hst (hnorm) rfl rfl rfl rfl ?_; clear hst; intro w hst) | (refine kf gf92 hst (hlen) rfl rfl rfl rfl ?_; clear hst; intro w hst) | (refine wl_guard (by rfl) ?_) | (refine kb 4 hst rfl rfl ?_; clear hst; intro b4 w hb4 hst) | (refine ka 6 hst tz24 rfl rfl ?_; clear hst; intro b6 w hb6 hst) | (refine ka 7 hst tz24 rfl rfl ?_; clear hst; intro b7 w hb7 hst) | (refine kl hst ta24 rfl ?_) | (refine klm hst ta24 rfl ?_) | (refine ka 9 hst tz24 rfl rfl ?_; clear hst; intro b9 w hb9 hst) | (refine kt hst ta24 rfl rfl ?_; clear hst; intro w hst) | (refine ktm hst ta24 rfl rfl ?_; clear hst; intro w hst) | (refine kl hst ta108 rfl ?_) | (refine klm hst ta108 rfl ?_) | (refine ka 13 hst tz241 rfl rfl ?_; clear hst; intro b13 w hb13 hst) | (refine kt hst ta241 rfl rfl ?_; clear hst; intro w hst) | (refine ktm hst ta241 rfl rfl ?_; clear hst; intro w hst)); try simp only [pz, pn, sz, sc])
  refine wp_region_TV 10 [(b9, .cells (wc 8 up) 24), (be, .cells #[.pointer (some ⟨br, 0, none⟩)] 110)] hst (by kernel_rfl) ?_; clear hst; intro w hst; (try dsimp only [List.length_cons, List.length_nil]); (try simp only [List.length_cons, List.length_nil, Nat.reduceAdd, Array.replicate_succ, Array.replicate_zero, List.push_toArray, List.nil_append, List.cons_append])
  refine r0 0 ?_; simp only [pz, pn, sz, sc]
  refine r0 1 ?_; simp only [pz, pn, sz, sc]
  refine r0 2 ?_; simp only [pz, pn, sz, sc]
  refine r0 6 ?_; simp only [pz, pn, sz, sc]
  refine rl 3 rfl ?_ (by first | exact ylA ta108 | exact ylM ta108); simp only [pz, pn, sz, sc]
  refine rl 4 rfl ?_ (by first | exact ylA ta24 | exact ylM ta24); simp only [pz, pn, sz, sc]
  refine r2 5 8 ?_ ?_
  (first | (refine kT gf200 hst (fun w hst => hfi w (hst.own _ _ (by repeat (first | exact List.Mem.head _ | refine List.Mem.tail _ ?_)))) rfl rfl rfl rfl ?_; clear hst; intro w hst) | (refine kf gf202 hst (hst5) rfl rfl rfl rfl ?_; clear hst; intro w hst) | (refine kp ?_)); (try simp only [pz, pn, sz, sc]); refine re ?_
  refine r2 7 8 ?_ ?_
  (first | (refine kT gf200 hst (fun w hst => hfi w (hst.own _ _ (by repeat (first | exact List.Mem.head _ | refine List.Mem.tail _ ?_)))) rfl rfl rfl rfl ?_; clear hst; intro w hst) | (refine kf gf202 hst (hst5) rfl rfl rfl rfl ?_; clear hst; intro w hst) | (refine kp ?_)); (try simp only [pz, pn, sz, sc]); refine re ?_
  refine r1 8 ?_; (refine ka 13 hst tz241 rfl rfl ?_; clear hst; intro b13 w hb13 hst); (try simp only [pz, pn, sz, sc]); refine re ?_
  refine r1 9 ?_; (first | (refine kt hst ta241 rfl rfl ?_; clear hst; intro w hst) | (refine ktm hst ta241 rfl rfl ?_; clear hst; intro w hst)); (try simp only [pz, pn, sz, sc]); refine re ?_
  refine rd_ ?_
  rotate_left 1
  (refine ka 13 hst tz241 rfl rfl ?_; clear hst; intro b13 w hb13 hst); (try simp only [pz, pn, sz, sc]); refine re ?_
  refine r1 7 ?_; (first | (refine kT gf200 hst (fun w hst => hfi w (hst.own _ _ (by repeat (first | exact List.Mem.head _ | refine List.Mem.tail _ ?_)))) rfl rfl rfl rfl ?_; clear hst; intro w hst) | (refine kf gf202 hst (hst5) rfl rfl rfl rfl ?_; clear hst; intro w hst) | (refine kp ?_)); (try simp only [pz, pn, sz, sc]); refine re ?_
  refine r1 9 ?_; (first | (refine kt hst ta241 rfl rfl ?_; clear hst; intro w hst) | (refine ktm hst ta241 rfl rfl ?_; clear hst; intro w hst)); (try simp only [pz, pn, sz, sc]); refine re ?_
  refine rd_ ?_
  rotate_right 1
  rotate_left 2
  (refine ka 13 hst tz241 rfl rfl ?_; clear hst; intro b13 w hb13 hst); (try simp only [pz, pn, sz, sc]); refine re ?_
  refine r1 5 ?_; (first | (refine kT gf200 hst (fun w hst => hfi w (hst.own _ _ (by repeat (first | exact List.Mem.head _ | refine List.Mem.tail _ ?_)))) rfl rfl rfl rfl ?_; clear hst; intro w hst) | (refine kf gf202 hst (hst5) rfl rfl rfl rfl ?_; clear hst; intro w hst) | (refine kp ?_)); (try simp only [pz, pn, sz, sc]); refine re ?_
  refine r1 7 ?_; (first | (refine kT gf200 hst (fun w hst => hfi w (hst.own _ _ (by repeat (first | exact List.Mem.head _ | refine List.Mem.tail _ ?_)))) rfl rfl rfl rfl ?_; clear hst; intro w hst) | (refine kf gf202 hst (hst5) rfl rfl rfl rfl ?_; clear hst; intro w hst) | (refine kp ?_)); (try simp only [pz, pn, sz, sc]); refine re ?_
  refine r1 9 ?_; (first | (refine kt hst ta241 rfl rfl ?_; clear hst; intro w hst) | (refine ktm hst ta241 rfl rfl ?_; clear hst; intro w hst)); (try simp only [pz, pn, sz, sc]); refine re ?_
  refine rd_ ?_
  rotate_right 2
  all_goals
    go_wp2_with ((first | (refine wl_guard (by rfl) ?_) | (refine kb 4 hst rfl rfl ?_; clear hst; intro b4 w hb4 hst) | (refine ka 6 hst tz24 rfl rfl ?_; clear hst; intro b6 w hb6 hst) | (refine ka 7 hst tz24 rfl rfl ?_; clear hst; intro b7 w hb7 hst) | (refine kl hst ta24 rfl ?_) | (refine klm hst ta24 rfl ?_) | (refine ka 9 hst tz24 rfl rfl ?_; clear hst; intro b9 w hb9 hst) | (refine kt hst ta24 rfl rfl ?_; clear hst; intro w hst) | (refine ktm hst ta24 rfl rfl ?_; clear hst; intro w hst) | (refine kl hst ta108 rfl ?_) | (refine klm hst ta108 rfl ?_) | (refine ka 13 hst tz241 rfl rfl ?_; clear hst; intro b13 w hb13 hst) | (refine kt hst ta241 rfl rfl ?_; clear hst; intro w hst) | (refine ktm hst ta241 rfl rfl ?_; clear hst; intro w hst)); try simp only [pz, pn, sz, sc])
    refine wp_region_TV 7 [(b13, .cells (wc 8 g5 ++ wc 8 h5) 241)] hst (by kernel_rfl) ?_; clear hst; intro w hst; (try dsimp only [List.length_cons, List.length_nil]); (try simp only [List.length_cons, List.length_nil, Nat.reduceAdd, Array.replicate_succ, Array.replicate_zero, List.push_toArray, List.nil_append, List.cons_append])
    refine r0 0 ?_; simp only [pz, pn, sz, sc]
    refine r0 2 ?_; simp only [pz, pn, sz, sc]
    refine rl 1 rfl ?_ (by first | exact ylA ta24 | exact ylM ta24); simp only [pz, pn, sz, sc]
    refine rl 3 rfl ?_ (by first | exact ylA ta24 | exact ylM ta24); simp only [pz, pn, sz, sc]
    refine r1 4 ?_; (first | (refine kt hst ta24 rfl rfl ?_; clear hst; intro w hst) | (refine ktm hst ta24 rfl rfl ?_; clear hst; intro w hst)); (try simp only [pz, pn, sz, sc]); refine re ?_
    refine r1 5 ?_; (first | (refine kt hst ta24 rfl rfl ?_; clear hst; intro w hst) | (refine ktm hst ta24 rfl rfl ?_; clear hst; intro w hst)); (try simp only [pz, pn, sz, sc]); refine re ?_
    refine r0 6 ?_; simp only [pz, pn, sz, sc]
    refine rd_ ?_
    go_wp2_with ((first | (refine wl_guard (by rfl) ?_) | (refine kb 4 hst rfl rfl ?_; clear hst; intro b4 w hb4 hst) | (refine ka 6 hst tz24 rfl rfl ?_; clear hst; intro b6 w hb6 hst) | (refine ka 7 hst tz24 rfl rfl ?_; clear hst; intro b7 w hb7 hst) | (refine kl hst ta24 rfl ?_) | (refine klm hst ta24 rfl ?_) | (refine ka 9 hst tz24 rfl rfl ?_; clear hst; intro b9 w hb9 hst) | (refine kt hst ta24 rfl rfl ?_; clear hst; intro w hst) | (refine ktm hst ta24 rfl rfl ?_; clear hst; intro w hst) | (refine kl hst ta108 rfl ?_) | (refine klm hst ta108 rfl ?_) | (refine ka 13 hst tz241 rfl rfl ?_; clear hst; intro b13 w hb13 hst) | (refine kt hst ta241 rfl rfl ?_; clear hst; intro w hst) | (refine ktm hst ta241 rfl rfl ?_; clear hst; intro w hst)); try simp only [pz, pn, sz, sc])
    refine bp_cct rfl rfl (la hst ta24) (la hst ta24) (by rfl) ⟨?_, hst.keeps, own_one (hst.own _ _ (by simp))⟩
    rfl

def goldG (u : Nat) : Nat := (goldS u 5).1 / 2 ^ 32
theorem goldG_near (u : Nat) (h1 : 2 ^ 254 ≤ u) (h2 : u < 2 ^ 256) : goldG u ≤ isqrt u + 1 ∧ isqrt u ≤ goldG u + 1 := by
  have hs := isqrt_spec (n := u) (by rw [four_128]; exact h2)
  exact goldroot_last u (isqrt u) h1 (by rw [show K * K = 2 ^ 256 by decide]; exact h2) hs.1.1 hs.1.2
theorem goldS_M (u : Nat) (h1 : 2 ^ 254 ≤ u) (h2 : u < 2 ^ 256) : (goldS u 5).1 < M := by
  have I := gold_near u h1 (by rw [show K * K = 2 ^ 256 by decide]; exact h2) 5 (by omega)
  have := (I.small (by omega)).1
  exact Nat.lt_of_le_of_lt this (small_M (by decide))

set_option maxHeartbeats 8000000 in
theorem groot_Root (be br : Nat) (c : Array Value) (hc : RomOk c) (hne : be ≠ br) (n : Nat) (hn : n < M) (w0 : World) (he : w0.heap[be]? = some (.cells #[.pointer (some ⟨br, 0, none⟩)] 110)) (hr : w0.heap[br]? = some (.cells c 92)) :
    GivesT Tryz.prog 199 #[.pointer (some ⟨be, 0, none⟩), W n] (rootV n) [(br, .cells c 92)] [(br, .cells (romTo n c) 92)] w0 := by
  have hst := St.eng hne he hr
  have hlt := lt_of_some he
  have hltr := lt_of_some hr
  unfold rootV
  by_cases h0 : n = 0
  · have hp := groot_Pair_no be n 5 hn (.inl ⟨h0, rfl⟩)
    subst h0
    rw [romTo_zero]
    have e0 : isqrt 0 = 0 := (isqrt_of (by decide) ⟨by decide, by decide⟩).symm
    rw [if_pos (show 0 < 2 ^ 256 by decide), e0]
    clear hc he hr
    go_enter Tryz.func199, Tryz.ntmps199
    go_wp2_with ((first | (refine kf gf201 hst (hp) rfl rfl rfl rfl ?_; clear hst; intro w hst) | (refine kb 3 hst rfl rfl ?_; clear hst; intro b3 w hb3 hst) | (refine ka 4 hst tz24 rfl rfl ?_; clear hst; intro b4 w hb4 hst) | (refine ka 5 hst tz24 rfl rfl ?_; clear hst; intro b5 w hb5 hst) | (refine kl hst ta24 rfl ?_) | (refine klm hst ta24 rfl ?_) | (refine ka 7 hst tz24 rfl rfl ?_; clear hst; intro b7 w hb7 hst) | (refine ka 8 hst tz24 rfl rfl ?_; clear hst; intro b8 w hb8 hst) | (refine kt hst ta24 rfl rfl ?_; clear hst; intro w hst) | (refine ktm hst ta24 rfl rfl ?_; clear hst; intro w hst) | (refine ka 10 hst tz24 rfl rfl ?_; clear hst; intro b10 w hb10 hst) | (refine ka 13 hst tz24 rfl rfl ?_; clear hst; intro b13 w hb13 hst) | (refine ka 15 hst tz24 rfl rfl ?_; clear hst; intro b15 w hb15 hst) | (refine ka 16 hst tz24 rfl rfl ?_; clear hst; intro b16 w hb16 hst) | (refine ka 18 hst tz24 rfl rfl ?_; clear hst; intro b18 w hb18 hst) | (refine ka 20 hst tz24 rfl rfl ?_; clear hst; intro b20 w hb20 hst)); try simp only [pz, pn, sz, sc])
    refine bp_cct rfl rfl (la hst ta24) (la hst ta24) (by rfl) ⟨?_, hst.keeps, own_one (hst.own _ _ (by simp))⟩
    rw [W_zero]; rfl
  · by_cases h : n < 2 ^ 256
    · rw [romTo_made c h0 h, if_pos h]
      have hnorm := srtroot_Norm n h0 h hn
      obtain ⟨u1, u2⟩ := norm_up n h0 h
      have hp := fun (w : World) (q : w.heap[be]? = some (.cells #[.pointer (some ⟨br, 0, none⟩)] 110)) (h' : w.heap[br]? = some (.cells c 92)) => groot_Pair be br c hc hne n h0 h hn w q h'
      obtain ⟨g1, g2⟩ := goldG_near _ u1 u2
      have hfix := fix_Root (n * 2 ^ nby n) (goldG (n * 2 ^ nby n)) 4 u2 g1 g2 (by omega) (by omega)
      have hsp := isqrt_spec (n := n * 2 ^ nby n) (by rw [four_128]; exact u2)
      have hs := @isqrt_up n _ h hsp.1
      obtain ⟨q1, q2, q3⟩ := sqrt_le h
      have hsq := prod_Square (isqrt n) q3
      rw [Nat.mod_eq_of_lt q2] at hsq
      have hsub := wide_Sub n (isqrt n * isqrt n) hn q2
      rw [sub_sq h] at hsub
      have hx : (nby n : Int).tdiv 2 = ((nby n / 2 : Nat) : Int) := by rw [Int.tdiv_eq_ediv_of_nonneg (by omega)]; omega
      have hx' : (nby n : Int) / 2 = ((nby n / 2 : Nat) : Int) := by omega
      have hxl : nby n / 2 ≤ 128 := by unfold nby; omega
      have hshr := wide_Shr (isqrt (n * 2 ^ nby n)) ((nby n / 2 : Nat) : Int) (Nat.lt_trans hsp.2 (small_M (by decide)))
      rw [clampN_nat _ (by omega), hs] at hshr
      have hshg := wide_Shr (goldS (n * 2 ^ nby n) 5).1 32 (goldS_M _ u1 u2)
      rw [show clampN 32 = 32 from rfl, show (goldS (n * 2 ^ nby n) 5).1 / 2 ^ 32 = goldG (n * 2 ^ nby n) from rfl] at hshg
      clear hsp hs u1 u2 g1 g2 q1 q2 q3 h h0 hc he hr
      generalize off (goldG (n * 2 ^ nby n)) (isqrt (n * 2 ^ nby n)) = d at *
      generalize goldG (n * 2 ^ nby n) = g at *
      generalize (goldS (n * 2 ^ nby n) 5).1 = g5 at *
      generalize (goldS (n * 2 ^ nby n) 5).2 = h5 at *
      generalize n * 2 ^ nby n - isqrt (n * 2 ^ nby n) * isqrt (n * 2 ^ nby n) = ru at *
      generalize isqrt (n * 2 ^ nby n) = su at *
      generalize n - isqrt n * isqrt n = rv at *
      generalize isqrt n * isqrt n = sv at *
      generalize isqrt n = s at *
      generalize nby n / 2 = x at *
      generalize n * 2 ^ nby n = up at *
      generalize romF = cf at *
      go_enter Tryz.func199, Tryz.ntmps199
      go_wp2_with ((first | (refine kT gf201 hst (fun w hst => hp w (hst.own _ _ (by repeat (first | exact List.Mem.head _ | refine List.Mem.tail _ ?_))) (hst.own _ _ (by repeat (first | exact List.Mem.head _ | refine List.Mem.tail _ ?_)))) rfl rfl rfl rfl ?_; clear hst; intro w hst) | (refine kf gf124 hst (hnorm) rfl rfl rfl rfl ?_; clear hst; intro w hst) | (refine kf gf123 hst (hshg) rfl rfl rfl rfl ?_; clear hst; intro w hst) | (refine kf gf184 hst (hfix) rfl rfl rfl rfl ?_; clear hst; intro w hst) | (refine kf gf123 hst (hshr) rfl rfl rfl rfl ?_; clear hst; intro w hst) | (refine kf gf127 hst (hsq) rfl rfl rfl rfl ?_; clear hst; intro w hst) | (refine kf gf95 hst (hsub) rfl rfl rfl rfl ?_; clear hst; intro w hst) | (refine kb 3 hst rfl rfl ?_; clear hst; intro b3 w hb3 hst) | (refine ka 4 hst tz24 rfl rfl ?_; clear hst; intro b4 w hb4 hst) | (refine ka 5 hst tz24 rfl rfl ?_; clear hst; intro b5 w hb5 hst) | (refine kl hst ta24 rfl ?_) | (refine klm hst ta24 rfl ?_) | (refine ka 7 hst tz24 rfl rfl ?_; clear hst; intro b7 w hb7 hst) | (refine ka 8 hst tz24 rfl rfl ?_; clear hst; intro b8 w hb8 hst) | (refine kt hst ta24 rfl rfl ?_; clear hst; intro w hst) | (refine ktm hst ta24 rfl rfl ?_; clear hst; intro w hst) | (refine ka 10 hst tz24 rfl rfl ?_; clear hst; intro b10 w hb10 hst) | (refine ka 13 hst tz24 rfl rfl ?_; clear hst; intro b13 w hb13 hst) | (refine ka 15 hst tz24 rfl rfl ?_; clear hst; intro b15 w hb15 hst) | (refine ka 16 hst tz24 rfl rfl ?_; clear hst; intro b16 w hb16 hst) | (refine ka 18 hst tz24 rfl rfl ?_; clear hst; intro b18 w hb18 hst) | (refine ka 20 hst tz24 rfl rfl ?_; clear hst; intro b20 w hb20 hst)); try simp only [pz, pn, sz, sc])
      refine wp_region_TV 6 [(b20, .cells (wc 8 rv) 24), (b15, .cells (wc 8 s) 24)] hst (by kernel_rfl) ?_; clear hst; intro w hst; (try dsimp only [List.length_cons, List.length_nil]); (try simp only [List.length_cons, List.length_nil, Nat.reduceAdd, Array.replicate_succ, Array.replicate_zero, List.push_toArray, List.nil_append, List.cons_append])
      refine r0 2 ?_; simp only [pz, pn, sz, sc]
      refine rl 0 rfl ?_ (by first | exact ylA ta24 | exact ylM ta24); simp only [pz, pn, sz, sc]
      refine rl 1 rfl ?_ (by first | exact ylA ta24 | exact ylM ta24); simp only [pz, pn, sz, sc]
      refine r1 3 ?_; (first | (refine kt hst ta24 rfl rfl ?_; clear hst; intro w hst) | (refine ktm hst ta24 rfl rfl ?_; clear hst; intro w hst)); (try simp only [pz, pn, sz, sc]); refine re ?_
      refine r1 4 ?_; (first | (refine kt hst ta24 rfl rfl ?_; clear hst; intro w hst) | (refine ktm hst ta24 rfl rfl ?_; clear hst; intro w hst)); (try simp only [pz, pn, sz, sc]); refine re ?_
      refine r0 5 ?_; simp only [pz, pn, sz, sc]
      refine rd_ ?_
      go_wp2_with ((first | (refine kb 3 hst rfl rfl ?_; clear hst; intro b3 w hb3 hst) | (refine ka 4 hst tz24 rfl rfl ?_; clear hst; intro b4 w hb4 hst) | (refine ka 5 hst tz24 rfl rfl ?_; clear hst; intro b5 w hb5 hst) | (refine kl hst ta24 rfl ?_) | (refine klm hst ta24 rfl ?_) | (refine ka 7 hst tz24 rfl rfl ?_; clear hst; intro b7 w hb7 hst) | (refine ka 8 hst tz24 rfl rfl ?_; clear hst; intro b8 w hb8 hst) | (refine kt hst ta24 rfl rfl ?_; clear hst; intro w hst) | (refine ktm hst ta24 rfl rfl ?_; clear hst; intro w hst) | (refine ka 10 hst tz24 rfl rfl ?_; clear hst; intro b10 w hb10 hst) | (refine ka 13 hst tz24 rfl rfl ?_; clear hst; intro b13 w hb13 hst) | (refine ka 15 hst tz24 rfl rfl ?_; clear hst; intro b15 w hb15 hst) | (refine ka 16 hst tz24 rfl rfl ?_; clear hst; intro b16 w hb16 hst) | (refine ka 18 hst tz24 rfl rfl ?_; clear hst; intro b18 w hb18 hst) | (refine ka 20 hst tz24 rfl rfl ?_; clear hst; intro b20 w hb20 hst)); try simp only [pz, pn, sz, sc])
      refine bp_cct rfl rfl (la hst ta24) (la hst ta24) (by rfl) ⟨?_, hst.keeps, own_one (hst.own _ _ (by simp))⟩
      rfl
    · have hp := groot_Pair_no be n 4 hn (.inr ⟨by omega, rfl⟩)
      rw [romTo_big c h, if_neg h]
      clear h h0 hc he hr
      go_enter Tryz.func199, Tryz.ntmps199
      go_wp2_with ((first | (refine kf gf201 hst (hp) rfl rfl rfl rfl ?_; clear hst; intro w hst) | (refine kb 3 hst rfl rfl ?_; clear hst; intro b3 w hb3 hst) | (refine ka 4 hst tz24 rfl rfl ?_; clear hst; intro b4 w hb4 hst) | (refine ka 5 hst tz24 rfl rfl ?_; clear hst; intro b5 w hb5 hst) | (refine kl hst ta24 rfl ?_) | (refine klm hst ta24 rfl ?_) | (refine ka 7 hst tz24 rfl rfl ?_; clear hst; intro b7 w hb7 hst) | (refine ka 8 hst tz24 rfl rfl ?_; clear hst; intro b8 w hb8 hst) | (refine kt hst ta24 rfl rfl ?_; clear hst; intro w hst) | (refine ktm hst ta24 rfl rfl ?_; clear hst; intro w hst) | (refine ka 10 hst tz24 rfl rfl ?_; clear hst; intro b10 w hb10 hst) | (refine ka 13 hst tz24 rfl rfl ?_; clear hst; intro b13 w hb13 hst) | (refine ka 15 hst tz24 rfl rfl ?_; clear hst; intro b15 w hb15 hst) | (refine ka 16 hst tz24 rfl rfl ?_; clear hst; intro b16 w hb16 hst) | (refine ka 18 hst tz24 rfl rfl ?_; clear hst; intro b18 w hb18 hst) | (refine ka 20 hst tz24 rfl rfl ?_; clear hst; intro b20 w hb20 hst)); try simp only [pz, pn, sz, sc])
      refine bp_cct rfl rfl (la hst ta24) (la hst ta24) (by rfl) ⟨?_, hst.keeps, own_one (hst.own _ _ (by simp))⟩
      rw [W_zero]; rfl

end Go.Proofs.YtggchelniblipaaGreatDoor.Rd

namespace Go.Proofs.YtggchelniblipaaGreatDoor.Rd
open Go Go.RowKit
set_option linter.unusedVariables false
set_option linter.unusedSimpArgs false
set_option maxRecDepth 100000

/-- One new block, and a pointer to it. -/
def OneNew (o : Obj) (Lg : List (Nat × Obj)) (v : Value) : Prop := ∃ b, Lg = [(b, o)] ∧ v = .pointer (some ⟨b, 0, none⟩)
theorem PostN.one {w0 w : World} {L : List (Nat × Obj)} {b : Nat} {o : Obj} (hst : St w0 [] L w) (hb : w0.heap.size ≤ b) (hm : (b, o) ∈ L) : PostN (OneNew o) w0 (.returned (.pointer (some ⟨b, 0, none⟩))) w :=
  PostN.of hst (Lg := [(b, o)]) ⟨by intro x hx; simp at hx; subst hx; exact hb, by simp⟩ ⟨b, rfl, rfl⟩ (fun x hx => by simp at hx; subst hx; exact hm)

theorem rom_zero (w : World) : (Instr.build 92 (List.toArray [])).run Tryz.prog w = .ok (.agg (romC 0 0 0 0 0)) w := by kernel_rfl

theorem rom_New (w0 : World) : GivesN Tryz.prog 29 #[] (OneNew (.cells (romC 0 0 0 0 0) 92)) w0 := by
  have hst := St.start [] w0
  have hz := rom_zero
  generalize romC 0 0 0 0 0 = c at *
  go_enter Tryz.func29, Tryz.ntmps29
  go_wp2_with ((first | (refine kB hz rfl ?_) | (refine kb 2 hst rfl rfl ?_; clear hst; intro b2 w hb2 hst)); try simp only [pz, pn, sz, sc])
  exact bp_t rfl rfl (by rfl) (PostN.one hst (by assumption) (by simp))

theorem newtonroot_New (br : Nat) (w0 : World) : GivesN Tryz.prog 24 #[.pointer (some ⟨br, 0, none⟩)] (OneNew (.cells #[.pointer (some ⟨br, 0, none⟩)] 102)) w0 := by
  have hst := St.start [] w0
  go_enter Tryz.func24, Tryz.ntmps24
  go_wp2_with ((first | (refine kB (tb100_0 _) rfl ?_) | (refine kb 9 hst rfl rfl ?_; clear hst; intro b9 w hb9 hst)); try simp only [pz, pn, sz, sc])
  exact bp_t rfl rfl (by rfl) (PostN.one hst (by assumption) (by simp))

theorem newton_New (br : Nat) (w0 : World) : GivesN Tryz.prog 23 #[.pointer (some ⟨br, 0, none⟩)] (OneNew (.cells #[.pointer (some ⟨br, 0, none⟩)] 98)) w0 := by
  have hst := St.start [] w0
  go_enter Tryz.func23, Tryz.ntmps23
  go_wp2_with ((first | (refine kB (tb96_0 _) rfl ?_) | (refine kb 9 hst rfl rfl ?_; clear hst; intro b9 w hb9 hst)); try simp only [pz, pn, sz, sc])
  exact bp_t rfl rfl (by rfl) (PostN.one hst (by assumption) (by simp))

theorem gold_New (br : Nat) (w0 : World) : GivesN Tryz.prog 25 #[.pointer (some ⟨br, 0, none⟩)] (OneNew (.cells #[.pointer (some ⟨br, 0, none⟩)] 106)) w0 := by
  have hst := St.start [] w0
  go_enter Tryz.func25, Tryz.ntmps25
  go_wp2_with ((first | (refine kB (tb104_0 _) rfl ?_) | (refine kb 9 hst rfl rfl ?_; clear hst; intro b9 w hb9 hst)); try simp only [pz, pn, sz, sc])
  exact bp_t rfl rfl (by rfl) (PostN.one hst (by assumption) (by simp))

theorem goldroot_New (br : Nat) (w0 : World) : GivesN Tryz.prog 26 #[.pointer (some ⟨br, 0, none⟩)] (OneNew (.cells #[.pointer (some ⟨br, 0, none⟩)] 110)) w0 := by
  have hst := St.start [] w0
  go_enter Tryz.func26, Tryz.ntmps26
  go_wp2_with ((first | (refine kB (tb108_0 _) rfl ?_) | (refine kb 9 hst rfl rfl ?_; clear hst; intro b9 w hb9 hst)); try simp only [pz, pn, sz, sc])
  exact bp_t rfl rfl (by rfl) (PostN.one hst (by assumption) (by simp))

/-- A set's cells. -/
def engC (d m : Int) (p : Option Addr) (a1 a2 a3 a4 : Value) (q0 q1 q2 q3 q4 : Int) : Array Value := #[.int .u32 d, .int .i32 m, .int .u32 0, .pointer p, .nilIface, a1, a2, a3, a4, .int .i64 q0, .int .i64 q1, .int .i64 q2, .int .i64 q3, .int .i64 q4]
def engN (p : Option Addr) : Array Value := engC 0 0 p .nilIface .nilIface .nilIface .nilIface 0 0 0 0 0
theorem set_zero (p : Option Addr) (w : World) : (Instr.build 63 (List.toArray [(1, .pointer p)])).run Tryz.prog w = .ok (.agg (engN p)) w := by kernel_rfl

/-- A set that is new. -/
def SetNew (bs br : Nat) (L : List (Nat × Obj)) : Prop := L = [(bs, .cells (engN (some ⟨br, 0, none⟩)) 63), (br, .cells (romC 0 0 0 0 0) 92)]

theorem engine_New (w0 : World) : GivesN Tryz.prog 20 #[] (fun Lg v => ∃ bs br, bs ≠ br ∧ v = .pointer (some ⟨bs, 0, none⟩) ∧ SetNew bs br Lg) w0 := by
  have hst := St.start [] w0
  have hz := set_zero
  have hr := fun w => rom_New w
  unfold SetNew
  generalize romC 0 0 0 0 0 = c at *
  generalize hsN : engN = sN at *
  clear hsN
  go_enter Tryz.func20, Tryz.ntmps20
  go_wp2_with ((first | (refine kN (o := ⟨some 1, _, _, _, _, _⟩) gf29 hst (fun w hst => hr w) rfl rfl rfl rfl ?_; clear hst; intro v1 Lg1 w hn1 hR1 hst; obtain ⟨br, rfl, rfl⟩ := hR1; (try simp only [List.cons_append, List.nil_append, List.append_nil, List.append_assoc] at hst)) | (refine kB (hz _) rfl ?_) | (refine kb 3 hst rfl rfl ?_; clear hst; intro b3 w hb3 hst)); try simp only [pz, pn, sz, sc])
  have hne : b3 ≠ br := by have q := hst.nodup; simpa using q
  have hnb : w0.heap.size ≤ br := hn1.1 _ (List.mem_singleton.2 rfl)
  exact bp_t rfl rfl (by rfl) (PostN.of hst (Lg := [(b3, .cells (sN (some ⟨br, 0, none⟩)) 63), (br, .cells c 92)]) ⟨by intro x hx; simp at hx; rcases hx with rfl | rfl <;> assumption, by simpa using hne⟩ ⟨b3, br, hne, rfl, rfl⟩ (fun x hx => by simpa using hx))

end Go.Proofs.YtggchelniblipaaGreatDoor.Rd
