/- What goldroot's Pair, Root answer. -/
import Derived.Test.YtmkeaedpfmblgaaGreatJ18
namespace Go.Proofs.YtmkeaedpfmblgaaGreat.Rd
open Go Go.RowKit
set_option linter.unusedVariables false
set_option linter.unusedSimpArgs false
set_option maxRecDepth 100000

set_option maxHeartbeats 8000000 in
theorem groot_Pair_no (be : Nat) (n e : Nat) (hn : n < M) (he : (n = 0 ∧ e = 5) ∨ (2 ^ 256 ≤ n ∧ e = 4)) : Gives Tryz.prog 222 #[.pointer (some ⟨be, 0, none⟩), W n, .int .i64 5] (.tuple #[W 0, W 0, .int .i64 e]) := by
  intro w0
  have hst := St.start [] w0
  have hlen := wide_Len n hn
  rcases he with ⟨rfl, rfl⟩ | ⟨h, rfl⟩
  · have hnorm := srtroot_Norm_zero
    rw [bl_zero] at hlen
    go_enter Tryz.func222, Tryz.ntmps222
    go_wp2_with ((first | (refine kf gf145 hst (hnorm) rfl rfl rfl rfl ?_; clear hst; intro w hst) | (refine kf gf113 hst (hlen) rfl rfl rfl rfl ?_; clear hst; intro w hst) | (refine wl_guard (by rfl) ?_) | (refine kb 4 hst rfl rfl ?_; clear hst; intro b4 w hb4 hst) | (refine ka 6 hst tz24 rfl rfl ?_; clear hst; intro b6 w hb6 hst) | (refine ka 7 hst tz24 rfl rfl ?_; clear hst; intro b7 w hb7 hst) | (refine kl hst ta24 rfl ?_) | (refine klm hst ta24 rfl ?_) | (refine ka 9 hst tz24 rfl rfl ?_; clear hst; intro b9 w hb9 hst) | (refine kt hst ta24 rfl rfl ?_; clear hst; intro w hst) | (refine ktm hst ta24 rfl rfl ?_; clear hst; intro w hst) | (refine kl hst ta129 rfl ?_) | (refine klm hst ta129 rfl ?_) | (refine ka 13 hst tz258 rfl rfl ?_; clear hst; intro b13 w hb13 hst) | (refine kt hst ta258 rfl rfl ?_; clear hst; intro w hst) | (refine ktm hst ta258 rfl rfl ?_; clear hst; intro w hst)); try simp only [pz, pn, sz, sc])
    refine bp_cct rfl rfl (la hst ta24) (la hst ta24) (by rfl) ⟨?_, hst.keeps⟩
    rw [W_zero]; rfl
  · have hnorm := srtroot_Norm_big n (by omega) hn
    have hbl : (256 : Int) < (bl n : Int) := by
      rcases Nat.lt_or_ge 256 (bl n) with h' | h'
      · omega
      · exact absurd (bl_le.1 h') (by omega)
    clear h
    generalize bl n = k at *
    go_enter Tryz.func222, Tryz.ntmps222
    go_wp2_with ((first | (refine kf gf145 hst (hnorm) rfl rfl rfl rfl ?_; clear hst; intro w hst) | (refine kf gf113 hst (hlen) rfl rfl rfl rfl ?_; clear hst; intro w hst) | (refine wl_guard (by rfl) ?_) | (refine kb 4 hst rfl rfl ?_; clear hst; intro b4 w hb4 hst) | (refine ka 6 hst tz24 rfl rfl ?_; clear hst; intro b6 w hb6 hst) | (refine ka 7 hst tz24 rfl rfl ?_; clear hst; intro b7 w hb7 hst) | (refine kl hst ta24 rfl ?_) | (refine klm hst ta24 rfl ?_) | (refine ka 9 hst tz24 rfl rfl ?_; clear hst; intro b9 w hb9 hst) | (refine kt hst ta24 rfl rfl ?_; clear hst; intro w hst) | (refine ktm hst ta24 rfl rfl ?_; clear hst; intro w hst) | (refine kl hst ta129 rfl ?_) | (refine klm hst ta129 rfl ?_) | (refine ka 13 hst tz258 rfl rfl ?_; clear hst; intro b13 w hb13 hst) | (refine kt hst ta258 rfl rfl ?_; clear hst; intro w hst) | (refine ktm hst ta258 rfl rfl ?_; clear hst; intro w hst)); try simp only [pz, pn, sz, sc])
    refine bp_cct rfl rfl (la hst ta24) (la hst ta24) (by rfl) ⟨?_, hst.keeps⟩
    rw [W_zero]; rfl

set_option maxHeartbeats 8000000 in
theorem groot_Pair (be br : Nat) (c : Array Value) (hc : RomOk c) (hne : be ≠ br) (n : Nat) (h0 : n ≠ 0) (h : n < 2 ^ 256) (hn : n < M) (w0 : World) (he : w0.heap[be]? = some (.cells #[.pointer (some ⟨br, 0, none⟩)] 131)) (hr : w0.heap[br]? = some (.cells c 80)) :
    GivesT Tryz.prog 222 #[.pointer (some ⟨be, 0, none⟩), W n, .int .i64 5] (.tuple #[W (goldS (n * 2 ^ nby n) 5).1, W (goldS (n * 2 ^ nby n) 5).2, .int .i64 0]) [(br, .cells c 80)] [(br, .cells romF 80)] w0 := by
  have hst := St.eng hne he hr
  have hlt := lt_of_some he
  have hltr := lt_of_some hr
  have hnorm := srtroot_Norm n h0 h hn
  have hlen := wide_Len n hn
  have hbl : ¬ (256 : Int) < (bl n : Int) := by have := bl_le.2 h; omega
  obtain ⟨u1, u2⟩ := norm_up n h0 h
  have hfi := fun (w : World) (q : w.heap[br]? = some (.cells c 80)) => groot_first br c hc _ u1 u2 w q
  have hst5 := groot_steps _ u1 u2
  clear u1 u2 h h0 hc he hr
  have z0 := gPair_size (goldS (n * 2 ^ nby n) 0)
  have z1 := gPair_one (goldS (n * 2 ^ nby n) 0)
  have z2 := gPair_size (goldS (n * 2 ^ nby n) 5)
  have z3 := gPair_one (goldS (n * 2 ^ nby n) 5)
  have e5 : gPair (goldS (n * 2 ^ nby n) 5) = wc 8 (goldS (n * 2 ^ nby n) 5).1 ++ wc 8 (goldS (n * 2 ^ nby n) 5).2 := rfl
  rw [e5] at z2 z3 hst5
  clear e5
  generalize (goldS (n * 2 ^ nby n) 5).1 = g5 at *
  generalize (goldS (n * 2 ^ nby n) 5).2 = h5 at *
  generalize gPair (goldS (n * 2 ^ nby n) 0) = p0 at *
  generalize n * 2 ^ nby n = up at *
  generalize romF = cf at *
  generalize bl n = k at *
  go_enter Tryz.func222, Tryz.ntmps222
  go_wp2_with ((first | (refine kf gf145 hst (hnorm) rfl rfl rfl rfl ?_; clear hst; intro w hst) | (refine kf gf113 hst (hlen) rfl rfl rfl rfl ?_; clear hst; intro w hst) | (refine wl_guard (by rfl) ?_) | (refine kb 4 hst rfl rfl ?_; clear hst; intro b4 w hb4 hst) | (refine ka 6 hst tz24 rfl rfl ?_; clear hst; intro b6 w hb6 hst) | (refine ka 7 hst tz24 rfl rfl ?_; clear hst; intro b7 w hb7 hst) | (refine kl hst ta24 rfl ?_) | (refine klm hst ta24 rfl ?_) | (refine ka 9 hst tz24 rfl rfl ?_; clear hst; intro b9 w hb9 hst) | (refine kt hst ta24 rfl rfl ?_; clear hst; intro w hst) | (refine ktm hst ta24 rfl rfl ?_; clear hst; intro w hst) | (refine kl hst ta129 rfl ?_) | (refine klm hst ta129 rfl ?_) | (refine ka 13 hst tz258 rfl rfl ?_; clear hst; intro b13 w hb13 hst) | (refine kt hst ta258 rfl rfl ?_; clear hst; intro w hst) | (refine ktm hst ta258 rfl rfl ?_; clear hst; intro w hst)); try simp only [pz, pn, sz, sc])
  refine wp_region_TV 10 [(b9, .cells (wc 8 up) 24), (be, .cells #[.pointer (some ⟨br, 0, none⟩)] 131)] hst (by kernel_rfl) ?_; clear hst; intro w hst; (try dsimp only [List.length_cons, List.length_nil]); (try simp only [List.length_cons, List.length_nil, Nat.reduceAdd, Array.replicate_succ, Array.replicate_zero, List.push_toArray, List.nil_append, List.cons_append])
  refine r0 0 ?_; simp only [pz, pn, sz, sc]
  refine r0 1 ?_; simp only [pz, pn, sz, sc]
  refine r0 2 ?_; simp only [pz, pn, sz, sc]
  refine r0 6 ?_; simp only [pz, pn, sz, sc]
  refine rl 3 rfl ?_ (by first | exact ylA ta129 | exact ylM ta129); simp only [pz, pn, sz, sc]
  refine rl 4 rfl ?_ (by first | exact ylA ta24 | exact ylM ta24); simp only [pz, pn, sz, sc]
  refine r2 5 8 ?_ ?_
  (first | (refine kT gf221 hst (fun w hst => hfi w (hst.own _ _ (by repeat (first | exact List.Mem.head _ | refine List.Mem.tail _ ?_)))) rfl rfl rfl rfl ?_; clear hst; intro w hst) | (refine kf gf223 hst (hst5) rfl rfl rfl rfl ?_; clear hst; intro w hst) | (refine kp ?_)); (try simp only [pz, pn, sz, sc]); refine re ?_
  refine r2 7 8 ?_ ?_
  (first | (refine kT gf221 hst (fun w hst => hfi w (hst.own _ _ (by repeat (first | exact List.Mem.head _ | refine List.Mem.tail _ ?_)))) rfl rfl rfl rfl ?_; clear hst; intro w hst) | (refine kf gf223 hst (hst5) rfl rfl rfl rfl ?_; clear hst; intro w hst) | (refine kp ?_)); (try simp only [pz, pn, sz, sc]); refine re ?_
  refine r1 8 ?_; (refine ka 13 hst tz258 rfl rfl ?_; clear hst; intro b13 w hb13 hst); (try simp only [pz, pn, sz, sc]); refine re ?_
  refine r1 9 ?_; (first | (refine kt hst ta258 rfl rfl ?_; clear hst; intro w hst) | (refine ktm hst ta258 rfl rfl ?_; clear hst; intro w hst)); (try simp only [pz, pn, sz, sc]); refine re ?_
  refine rd_ ?_
  rotate_left 1
  (refine ka 13 hst tz258 rfl rfl ?_; clear hst; intro b13 w hb13 hst); (try simp only [pz, pn, sz, sc]); refine re ?_
  refine r1 7 ?_; (first | (refine kT gf221 hst (fun w hst => hfi w (hst.own _ _ (by repeat (first | exact List.Mem.head _ | refine List.Mem.tail _ ?_)))) rfl rfl rfl rfl ?_; clear hst; intro w hst) | (refine kf gf223 hst (hst5) rfl rfl rfl rfl ?_; clear hst; intro w hst) | (refine kp ?_)); (try simp only [pz, pn, sz, sc]); refine re ?_
  refine r1 9 ?_; (first | (refine kt hst ta258 rfl rfl ?_; clear hst; intro w hst) | (refine ktm hst ta258 rfl rfl ?_; clear hst; intro w hst)); (try simp only [pz, pn, sz, sc]); refine re ?_
  refine rd_ ?_
  rotate_right 1
  rotate_left 2
  (refine ka 13 hst tz258 rfl rfl ?_; clear hst; intro b13 w hb13 hst); (try simp only [pz, pn, sz, sc]); refine re ?_
  refine r1 5 ?_; (first | (refine kT gf221 hst (fun w hst => hfi w (hst.own _ _ (by repeat (first | exact List.Mem.head _ | refine List.Mem.tail _ ?_)))) rfl rfl rfl rfl ?_; clear hst; intro w hst) | (refine kf gf223 hst (hst5) rfl rfl rfl rfl ?_; clear hst; intro w hst) | (refine kp ?_)); (try simp only [pz, pn, sz, sc]); refine re ?_
  refine r1 7 ?_; (first | (refine kT gf221 hst (fun w hst => hfi w (hst.own _ _ (by repeat (first | exact List.Mem.head _ | refine List.Mem.tail _ ?_)))) rfl rfl rfl rfl ?_; clear hst; intro w hst) | (refine kf gf223 hst (hst5) rfl rfl rfl rfl ?_; clear hst; intro w hst) | (refine kp ?_)); (try simp only [pz, pn, sz, sc]); refine re ?_
  refine r1 9 ?_; (first | (refine kt hst ta258 rfl rfl ?_; clear hst; intro w hst) | (refine ktm hst ta258 rfl rfl ?_; clear hst; intro w hst)); (try simp only [pz, pn, sz, sc]); refine re ?_
  refine rd_ ?_
  rotate_right 2
  all_goals
    go_wp2_with ((first | (refine wl_guard (by rfl) ?_) | (refine kb 4 hst rfl rfl ?_; clear hst; intro b4 w hb4 hst) | (refine ka 6 hst tz24 rfl rfl ?_; clear hst; intro b6 w hb6 hst) | (refine ka 7 hst tz24 rfl rfl ?_; clear hst; intro b7 w hb7 hst) | (refine kl hst ta24 rfl ?_) | (refine klm hst ta24 rfl ?_) | (refine ka 9 hst tz24 rfl rfl ?_; clear hst; intro b9 w hb9 hst) | (refine kt hst ta24 rfl rfl ?_; clear hst; intro w hst) | (refine ktm hst ta24 rfl rfl ?_; clear hst; intro w hst) | (refine kl hst ta129 rfl ?_) | (refine klm hst ta129 rfl ?_) | (refine ka 13 hst tz258 rfl rfl ?_; clear hst; intro b13 w hb13 hst) | (refine kt hst ta258 rfl rfl ?_; clear hst; intro w hst) | (refine ktm hst ta258 rfl rfl ?_; clear hst; intro w hst)); try simp only [pz, pn, sz, sc])
    refine wp_region_TV 7 [(b13, .cells (wc 8 g5 ++ wc 8 h5) 258)] hst (by kernel_rfl) ?_; clear hst; intro w hst; (try dsimp only [List.length_cons, List.length_nil]); (try simp only [List.length_cons, List.length_nil, Nat.reduceAdd, Array.replicate_succ, Array.replicate_zero, List.push_toArray, List.nil_append, List.cons_append])
    refine r0 0 ?_; simp only [pz, pn, sz, sc]
    refine r0 2 ?_; simp only [pz, pn, sz, sc]
    refine rl 1 rfl ?_ (by first | exact ylA ta24 | exact ylM ta24); simp only [pz, pn, sz, sc]
    refine rl 3 rfl ?_ (by first | exact ylA ta24 | exact ylM ta24); simp only [pz, pn, sz, sc]
    refine r1 4 ?_; (first | (refine kt hst ta24 rfl rfl ?_; clear hst; intro w hst) | (refine ktm hst ta24 rfl rfl ?_; clear hst; intro w hst)); (try simp only [pz, pn, sz, sc]); refine re ?_
    refine r1 5 ?_; (first | (refine kt hst ta24 rfl rfl ?_; clear hst; intro w hst) | (refine ktm hst ta24 rfl rfl ?_; clear hst; intro w hst)); (try simp only [pz, pn, sz, sc]); refine re ?_
    refine r0 6 ?_; simp only [pz, pn, sz, sc]
    refine rd_ ?_
    go_wp2_with ((first | (refine wl_guard (by rfl) ?_) | (refine kb 4 hst rfl rfl ?_; clear hst; intro b4 w hb4 hst) | (refine ka 6 hst tz24 rfl rfl ?_; clear hst; intro b6 w hb6 hst) | (refine ka 7 hst tz24 rfl rfl ?_; clear hst; intro b7 w hb7 hst) | (refine kl hst ta24 rfl ?_) | (refine klm hst ta24 rfl ?_) | (refine ka 9 hst tz24 rfl rfl ?_; clear hst; intro b9 w hb9 hst) | (refine kt hst ta24 rfl rfl ?_; clear hst; intro w hst) | (refine ktm hst ta24 rfl rfl ?_; clear hst; intro w hst) | (refine kl hst ta129 rfl ?_) | (refine klm hst ta129 rfl ?_) | (refine ka 13 hst tz258 rfl rfl ?_; clear hst; intro b13 w hb13 hst) | (refine kt hst ta258 rfl rfl ?_; clear hst; intro w hst) | (refine ktm hst ta258 rfl rfl ?_; clear hst; intro w hst)); try simp only [pz, pn, sz, sc])
    refine bp_cct rfl rfl (la hst ta24) (la hst ta24) (by rfl) ⟨?_, hst.keeps, own_one (hst.own _ _ (by simp))⟩
    rfl

def goldG (u : Nat) : Nat := (goldS u 5).1 / 2 ^ 32
theorem goldG_near (u : Nat) (h1 : 2 ^ 254 ≤ u) (h2 : u < 2 ^ 256) : goldG u ≤ isqrt u + 1 ∧ isqrt u ≤ goldG u + 1 := by
  have hs := isqrt_spec (n := u) (by rw [four_128]; exact h2)
  exact goldroot_last u (isqrt u) h1 (by rw [show K * K = 2 ^ 256 by decide]; exact h2) hs.1.1 hs.1.2
theorem goldS_M (u : Nat) (h1 : 2 ^ 254 ≤ u) (h2 : u < 2 ^ 256) : (goldS u 5).1 < M := by
  have I := gold_near u h1 (by rw [show K * K = 2 ^ 256 by decide]; exact h2) 5 (by omega)
  have := (I.small (by omega)).1
  exact Nat.lt_of_le_of_lt this (small_M (by decide))

set_option maxHeartbeats 8000000 in
theorem groot_Root (be br : Nat) (c : Array Value) (hc : RomOk c) (hne : be ≠ br) (n : Nat) (hn : n < M) (w0 : World) (he : w0.heap[be]? = some (.cells #[.pointer (some ⟨br, 0, none⟩)] 131)) (hr : w0.heap[br]? = some (.cells c 80)) :
    GivesT Tryz.prog 220 #[.pointer (some ⟨be, 0, none⟩), W n] (rootV n) [(br, .cells c 80)] [(br, .cells (romTo n c) 80)] w0 := by
  have hst := St.eng hne he hr
  have hlt := lt_of_some he
  have hltr := lt_of_some hr
  unfold rootV
  by_cases h0 : n = 0
  · have hp := groot_Pair_no be n 5 hn (.inl ⟨h0, rfl⟩)
    subst h0
    rw [romTo_zero]
    have e0 : isqrt 0 = 0 := (isqrt_of (by decide) ⟨by decide, by decide⟩).symm
    rw [if_pos (show 0 < 2 ^ 256 by decide), e0]
    clear hc he hr
    go_enter Tryz.func220, Tryz.ntmps220
    go_wp2_with ((first | (refine kf gf222 hst (hp) rfl rfl rfl rfl ?_; clear hst; intro w hst) | (refine kb 3 hst rfl rfl ?_; clear hst; intro b3 w hb3 hst) | (refine ka 4 hst tz24 rfl rfl ?_; clear hst; intro b4 w hb4 hst) | (refine ka 5 hst tz24 rfl rfl ?_; clear hst; intro b5 w hb5 hst) | (refine kl hst ta24 rfl ?_) | (refine klm hst ta24 rfl ?_) | (refine ka 7 hst tz24 rfl rfl ?_; clear hst; intro b7 w hb7 hst) | (refine ka 8 hst tz24 rfl rfl ?_; clear hst; intro b8 w hb8 hst) | (refine kt hst ta24 rfl rfl ?_; clear hst; intro w hst) | (refine ktm hst ta24 rfl rfl ?_; clear hst; intro w hst) | (refine ka 10 hst tz24 rfl rfl ?_; clear hst; intro b10 w hb10 hst) | (refine ka 13 hst tz24 rfl rfl ?_; clear hst; intro b13 w hb13 hst) | (refine ka 15 hst tz24 rfl rfl ?_; clear hst; intro b15 w hb15 hst) | (refine ka 16 hst tz24 rfl rfl ?_; clear hst; intro b16 w hb16 hst) | (refine ka 18 hst tz24 rfl rfl ?_; clear hst; intro b18 w hb18 hst) | (refine ka 20 hst tz24 rfl rfl ?_; clear hst; intro b20 w hb20 hst)); try simp only [pz, pn, sz, sc])
    refine bp_cct rfl rfl (la hst ta24) (la hst ta24) (by rfl) ⟨?_, hst.keeps, own_one (hst.own _ _ (by simp))⟩
    rw [W_zero]; rfl
  · by_cases h : n < 2 ^ 256
    · rw [romTo_made c h0 h, if_pos h]
      have hnorm := srtroot_Norm n h0 h hn
      obtain ⟨u1, u2⟩ := norm_up n h0 h
      have hp := fun (w : World) (q : w.heap[be]? = some (.cells #[.pointer (some ⟨br, 0, none⟩)] 131)) (h' : w.heap[br]? = some (.cells c 80)) => groot_Pair be br c hc hne n h0 h hn w q h'
      obtain ⟨g1, g2⟩ := goldG_near _ u1 u2
      have hfix := fix_Root (n * 2 ^ nby n) (goldG (n * 2 ^ nby n)) 4 u2 g1 g2 (by omega) (by omega)
      have hsp := isqrt_spec (n := n * 2 ^ nby n) (by rw [four_128]; exact u2)
      have hs := @isqrt_up n _ h hsp.1
      obtain ⟨q1, q2, q3⟩ := sqrt_le h
      have hsq := prod_Square (isqrt n) q3
      rw [Nat.mod_eq_of_lt q2] at hsq
      have hsub := wide_Sub n (isqrt n * isqrt n) hn q2
      rw [sub_sq h] at hsub
      have hx : (nby n : Int).tdiv 2 = ((nby n / 2 : Nat) : Int) := by rw [Int.tdiv_eq_ediv_of_nonneg (by omega)]; omega
      have hx' : (nby n : Int) / 2 = ((nby n / 2 : Nat) : Int) := by omega
      have hxl : nby n / 2 ≤ 128 := by unfold nby; omega
      have hshr := wide_Shr (isqrt (n * 2 ^ nby n)) ((nby n / 2 : Nat) : Int) (Nat.lt_trans hsp.2 (small_M (by decide)))
      rw [clampN_nat _ (by omega), hs] at hshr
      have hshg := wide_Shr (goldS (n * 2 ^ nby n) 5).1 32 (goldS_M _ u1 u2)
      rw [show clampN 32 = 32 from rfl, show (goldS (n * 2 ^ nby n) 5).1 / 2 ^ 32 = goldG (n * 2 ^ nby n) from rfl] at hshg
      clear hsp hs u1 u2 g1 g2 q1 q2 q3 h h0 hc he hr
      generalize off (goldG (n * 2 ^ nby n)) (isqrt (n * 2 ^ nby n)) = d at *
      generalize goldG (n * 2 ^ nby n) = g at *
      generalize (goldS (n * 2 ^ nby n) 5).1 = g5 at *
      generalize (goldS (n * 2 ^ nby n) 5).2 = h5 at *
      generalize n * 2 ^ nby n - isqrt (n * 2 ^ nby n) * isqrt (n * 2 ^ nby n) = ru at *
      generalize isqrt (n * 2 ^ nby n) = su at *
      generalize n - isqrt n * isqrt n = rv at *
      generalize isqrt n * isqrt n = sv at *
      generalize isqrt n = s at *
      generalize nby n / 2 = x at *
      generalize n * 2 ^ nby n = up at *
      generalize romF = cf at *
      go_enter Tryz.func220, Tryz.ntmps220
      go_wp2_with ((first | (refine kT gf222 hst (fun w hst => hp w (hst.own _ _ (by repeat (first | exact List.Mem.head _ | refine List.Mem.tail _ ?_))) (hst.own _ _ (by repeat (first | exact List.Mem.head _ | refine List.Mem.tail _ ?_)))) rfl rfl rfl rfl ?_; clear hst; intro w hst) | (refine kf gf145 hst (hnorm) rfl rfl rfl rfl ?_; clear hst; intro w hst) | (refine kf gf144 hst (hshg) rfl rfl rfl rfl ?_; clear hst; intro w hst) | (refine kf gf205 hst (hfix) rfl rfl rfl rfl ?_; clear hst; intro w hst) | (refine kf gf144 hst (hshr) rfl rfl rfl rfl ?_; clear hst; intro w hst) | (refine kf gf148 hst (hsq) rfl rfl rfl rfl ?_; clear hst; intro w hst) | (refine kf gf116 hst (hsub) rfl rfl rfl rfl ?_; clear hst; intro w hst) | (refine kb 3 hst rfl rfl ?_; clear hst; intro b3 w hb3 hst) | (refine ka 4 hst tz24 rfl rfl ?_; clear hst; intro b4 w hb4 hst) | (refine ka 5 hst tz24 rfl rfl ?_; clear hst; intro b5 w hb5 hst) | (refine kl hst ta24 rfl ?_) | (refine klm hst ta24 rfl ?_) | (refine ka 7 hst tz24 rfl rfl ?_; clear hst; intro b7 w hb7 hst) | (refine ka 8 hst tz24 rfl rfl ?_; clear hst; intro b8 w hb8 hst) | (refine kt hst ta24 rfl rfl ?_; clear hst; intro w hst) | (refine ktm hst ta24 rfl rfl ?_; clear hst; intro w hst) | (refine ka 10 hst tz24 rfl rfl ?_; clear hst; intro b10 w hb10 hst) | (refine ka 13 hst tz24 rfl rfl ?_; clear hst; intro b13 w hb13 hst) | (refine ka 15 hst tz24 rfl rfl ?_; clear hst; intro b15 w hb15 hst) | (refine ka 16 hst tz24 rfl rfl ?_; clear hst; intro b16 w hb16 hst) | (refine ka 18 hst tz24 rfl rfl ?_; clear hst; intro b18 w hb18 hst) | (refine ka 20 hst tz24 rfl rfl ?_; clear hst; intro b20 w hb20 hst)); try simp only [pz, pn, sz, sc])
      refine wp_region_TV 6 [(b20, .cells (wc 8 rv) 24), (b15, .cells (wc 8 s) 24)] hst (by kernel_rfl) ?_; clear hst; intro w hst; (try dsimp only [List.length_cons, List.length_nil]); (try simp only [List.length_cons, List.length_nil, Nat.reduceAdd, Array.replicate_succ, Array.replicate_zero, List.push_toArray, List.nil_append, List.cons_append])
      refine r0 2 ?_; simp only [pz, pn, sz, sc]
      refine rl 0 rfl ?_ (by first | exact ylA ta24 | exact ylM ta24); simp only [pz, pn, sz, sc]
      refine rl 1 rfl ?_ (by first | exact ylA ta24 | exact ylM ta24); simp only [pz, pn, sz, sc]
      refine r1 3 ?_; (first | (refine kt hst ta24 rfl rfl ?_; clear hst; intro w hst) | (refine ktm hst ta24 rfl rfl ?_; clear hst; intro w hst)); (try simp only [pz, pn, sz, sc]); refine re ?_
      refine r1 4 ?_; (first | (refine kt hst ta24 rfl rfl ?_; clear hst; intro w hst) | (refine ktm hst ta24 rfl rfl ?_; clear hst; intro w hst)); (try simp only [pz, pn, sz, sc]); refine re ?_
      refine r0 5 ?_; simp only [pz, pn, sz, sc]
      refine rd_ ?_
      go_wp2_with ((first | (refine kb 3 hst rfl rfl ?_; clear hst; intro b3 w hb3 hst) | (refine ka 4 hst tz24 rfl rfl ?_; clear hst; intro b4 w hb4 hst) | (refine ka 5 hst tz24 rfl rfl ?_; clear hst; intro b5 w hb5 hst) | (refine kl hst ta24 rfl ?_) | (refine klm hst ta24 rfl ?_) | (refine ka 7 hst tz24 rfl rfl ?_; clear hst; intro b7 w hb7 hst) | (refine ka 8 hst tz24 rfl rfl ?_; clear hst; intro b8 w hb8 hst) | (refine kt hst ta24 rfl rfl ?_; clear hst; intro w hst) | (refine ktm hst ta24 rfl rfl ?_; clear hst; intro w hst) | (refine ka 10 hst tz24 rfl rfl ?_; clear hst; intro b10 w hb10 hst) | (refine ka 13 hst tz24 rfl rfl ?_; clear hst; intro b13 w hb13 hst) | (refine ka 15 hst tz24 rfl rfl ?_; clear hst; intro b15 w hb15 hst) | (refine ka 16 hst tz24 rfl rfl ?_; clear hst; intro b16 w hb16 hst) | (refine ka 18 hst tz24 rfl rfl ?_; clear hst; intro b18 w hb18 hst) | (refine ka 20 hst tz24 rfl rfl ?_; clear hst; intro b20 w hb20 hst)); try simp only [pz, pn, sz, sc])
      refine bp_cct rfl rfl (la hst ta24) (la hst ta24) (by rfl) ⟨?_, hst.keeps, own_one (hst.own _ _ (by simp))⟩
      rfl
    · have hp := groot_Pair_no be n 4 hn (.inr ⟨by omega, rfl⟩)
      rw [romTo_big c h, if_neg h]
      clear h h0 hc he hr
      go_enter Tryz.func220, Tryz.ntmps220
      go_wp2_with ((first | (refine kf gf222 hst (hp) rfl rfl rfl rfl ?_; clear hst; intro w hst) | (refine kb 3 hst rfl rfl ?_; clear hst; intro b3 w hb3 hst) | (refine ka 4 hst tz24 rfl rfl ?_; clear hst; intro b4 w hb4 hst) | (refine ka 5 hst tz24 rfl rfl ?_; clear hst; intro b5 w hb5 hst) | (refine kl hst ta24 rfl ?_) | (refine klm hst ta24 rfl ?_) | (refine ka 7 hst tz24 rfl rfl ?_; clear hst; intro b7 w hb7 hst) | (refine ka 8 hst tz24 rfl rfl ?_; clear hst; intro b8 w hb8 hst) | (refine kt hst ta24 rfl rfl ?_; clear hst; intro w hst) | (refine ktm hst ta24 rfl rfl ?_; clear hst; intro w hst) | (refine ka 10 hst tz24 rfl rfl ?_; clear hst; intro b10 w hb10 hst) | (refine ka 13 hst tz24 rfl rfl ?_; clear hst; intro b13 w hb13 hst) | (refine ka 15 hst tz24 rfl rfl ?_; clear hst; intro b15 w hb15 hst) | (refine ka 16 hst tz24 rfl rfl ?_; clear hst; intro b16 w hb16 hst) | (refine ka 18 hst tz24 rfl rfl ?_; clear hst; intro b18 w hb18 hst) | (refine ka 20 hst tz24 rfl rfl ?_; clear hst; intro b20 w hb20 hst)); try simp only [pz, pn, sz, sc])
      refine bp_cct rfl rfl (la hst ta24) (la hst ta24) (by rfl) ⟨?_, hst.keeps, own_one (hst.own _ _ (by simp))⟩
      rw [W_zero]; rfl

end Go.Proofs.YtmkeaedpfmblgaaGreat.Rd
