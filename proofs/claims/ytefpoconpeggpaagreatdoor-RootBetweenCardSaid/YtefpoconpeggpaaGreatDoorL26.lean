/- What the set's ready, is, Of answer. -/
import Derived.Test.YtefpoconpeggpaaGreatDoorL25
namespace Go.Proofs.YtefpoconpeggpaaGreatDoor.Rd
open Go Go.RowKit
set_option linter.unusedVariables false
set_option linter.unusedSimpArgs false
set_option maxRecDepth 100000

set_option maxHeartbeats 8000000 in
theorem groot_Pair_no (be : Nat) (n e : Nat) (hn : n < M) (he : (n = 0 ∧ e = 5) ∨ (2 ^ 256 ≤ n ∧ e = 4)) : Gives Tryz.prog 268 #[.pointer (some ⟨be, 0, none⟩), W n, .int .i64 5] (.tuple #[W 0, W 0, .int .i64 e]) := by
  intro w0
  have hst := St.start [] w0
  have hlen := wide_Len n hn
  rcases he with ⟨rfl, rfl⟩ | ⟨h, rfl⟩
  · have hnorm := srtroot_Norm_zero
    rw [bl_zero] at hlen
    go_enter Tryz.func268, Tryz.ntmps268
    go_wp2_with ((first | (refine kf gf225 hst (hnorm) rfl rfl rfl rfl ?_; clear hst; intro w hst) | (refine kf gf47 hst (hlen) rfl rfl rfl rfl ?_; clear hst; intro w hst) | (refine wl_guard (by rfl) ?_) | (refine kb 4 hst rfl rfl ?_; clear hst; intro b4 w hb4 hst) | (refine ka 6 hst tz44 rfl rfl ?_; clear hst; intro b6 w hb6 hst) | (refine ka 7 hst tz44 rfl rfl ?_; clear hst; intro b7 w hb7 hst) | (refine kl hst ta44 rfl ?_) | (refine ka 9 hst tz44 rfl rfl ?_; clear hst; intro b9 w hb9 hst) | (refine kt hst ta44 rfl rfl ?_; clear hst; intro w hst)); try simp only [pz, pn, sz, sc])
    refine bp_cct rfl rfl (la hst ta44) (la hst ta44) (by rfl) ⟨?_, hst.keeps⟩
    rw [W_zero]; rfl
  · have hnorm := srtroot_Norm_big n (by omega) hn
    have hbl : (256 : Int) < (bl n : Int) := by
      rcases Nat.lt_or_ge 256 (bl n) with h' | h'
      · omega
      · exact absurd (bl_le.1 h') (by omega)
    clear h
    generalize bl n = k at *
    go_enter Tryz.func268, Tryz.ntmps268
    go_wp2_with ((first | (refine kf gf225 hst (hnorm) rfl rfl rfl rfl ?_; clear hst; intro w hst) | (refine kf gf47 hst (hlen) rfl rfl rfl rfl ?_; clear hst; intro w hst) | (refine wl_guard (by rfl) ?_) | (refine kb 4 hst rfl rfl ?_; clear hst; intro b4 w hb4 hst) | (refine ka 6 hst tz44 rfl rfl ?_; clear hst; intro b6 w hb6 hst) | (refine ka 7 hst tz44 rfl rfl ?_; clear hst; intro b7 w hb7 hst) | (refine kl hst ta44 rfl ?_) | (refine ka 9 hst tz44 rfl rfl ?_; clear hst; intro b9 w hb9 hst) | (refine kt hst ta44 rfl rfl ?_; clear hst; intro w hst)); try simp only [pz, pn, sz, sc])
    refine bp_cct rfl rfl (la hst ta44) (la hst ta44) (by rfl) ⟨?_, hst.keeps⟩
    rw [W_zero]; rfl

set_option maxHeartbeats 8000000 in
theorem groot_Pair (be br : Nat) (c : Array Value) (hc : RomOk c) (hne : be ≠ br) (n : Nat) (h0 : n ≠ 0) (h : n < 2 ^ 256) (hn : n < M) (w0 : World) (he : w0.heap[be]? = some (.cells #[.pointer (some ⟨br, 0, none⟩)] 214)) (hr : w0.heap[br]? = some (.cells c 121)) :
    GivesT Tryz.prog 268 #[.pointer (some ⟨be, 0, none⟩), W n, .int .i64 5] (.tuple #[W (goldS (n * 2 ^ nby n) 5).1, W (goldS (n * 2 ^ nby n) 5).2, .int .i64 0]) [(br, .cells c 121)] [(br, .cells romF 121)] w0 := by
  have hst := St.eng hne he hr
  have hlt := lt_of_some he
  have hltr := lt_of_some hr
  have hnorm := srtroot_Norm n h0 h hn
  have hlen := wide_Len n hn
  have hbl : ¬ (256 : Int) < (bl n : Int) := by have := bl_le.2 h; omega
  obtain ⟨u1, u2⟩ := norm_up n h0 h
  have hfi := fun (w : World) (q : w.heap[br]? = some (.cells c 121)) => groot_first br c hc _ u1 u2 w q
  have hst5 := groot_steps _ u1 u2
  clear u1 u2 h h0 hc he hr
  have z0 := gPair_size (goldS (n * 2 ^ nby n) 0)
  have z1 := gPair_one (goldS (n * 2 ^ nby n) 0)
  have z2 := gPair_size (goldS (n * 2 ^ nby n) 5)
  have z3 := gPair_one (goldS (n * 2 ^ nby n) 5)
  have e5 : gPair (goldS (n * 2 ^ nby n) 5) = wc 8 (goldS (n * 2 ^ nby n) 5).1 ++ wc 8 (goldS (n * 2 ^ nby n) 5).2 := rfl
  rw [e5] at z2 z3 hst5
  clear e5
  generalize (goldS (n * 2 ^ nby n) 5).1 = g5 at *
  generalize (goldS (n * 2 ^ nby n) 5).2 = h5 at *
  generalize gPair (goldS (n * 2 ^ nby n) 0) = p0 at *
  generalize n * 2 ^ nby n = up at *
  generalize romF = cf at *
  generalize bl n = k at *
  go_enter Tryz.func268, Tryz.ntmps268
  go_wp2_with ((first | (refine kf gf225 hst (hnorm) rfl rfl rfl rfl ?_; clear hst; intro w hst) | (refine kf gf47 hst (hlen) rfl rfl rfl rfl ?_; clear hst; intro w hst) | (refine wl_guard (by rfl) ?_) | (refine kb 4 hst rfl rfl ?_; clear hst; intro b4 w hb4 hst) | (refine ka 6 hst tz44 rfl rfl ?_; clear hst; intro b6 w hb6 hst) | (refine ka 7 hst tz44 rfl rfl ?_; clear hst; intro b7 w hb7 hst) | (refine kl hst ta44 rfl ?_) | (refine ka 9 hst tz44 rfl rfl ?_; clear hst; intro b9 w hb9 hst) | (refine kt hst ta44 rfl rfl ?_; clear hst; intro w hst)); try simp only [pz, pn, sz, sc])
  refine wp_region_TV 10 [(b9, .cells (wc 8 up) 44), (be, .cells #[.pointer (some ⟨br, 0, none⟩)] 214)] hst (by kernel_rfl) ?_; clear hst; intro w hst; (try simp only [List.length_cons, List.length_nil, Nat.reduceAdd, Array.replicate_succ, Array.replicate_zero, List.push_toArray, List.nil_append, List.cons_append])
  refine r0 0 ?_; simp only [pz, pn, sz, sc]
  refine r0 1 ?_; simp only [pz, pn, sz, sc]
  refine r0 2 ?_; simp only [pz, pn, sz, sc]
  refine r0 6 ?_; simp only [pz, pn, sz, sc]
  refine rl 3 rfl ?_ (by first | exact ylA ta212 | exact ylM ta212); simp only [pz, pn, sz, sc]
  refine rl 4 rfl ?_ (by first | exact ylA ta44 | exact ylM ta44); simp only [pz, pn, sz, sc]
  refine r2 5 8 ?_ ?_
  (refine kT gf267 hst (fun w hst => hfi w (hst.own _ _ (by repeat (first | exact List.Mem.head _ | refine List.Mem.tail _ ?_)))) rfl rfl rfl rfl ?_; clear hst; intro w hst); (try simp only [pz, pn, sz, sc]); refine re ?_
  refine r2 7 8 ?_ ?_
  (refine kf gf269 hst (hst5) rfl rfl rfl rfl ?_; clear hst; intro w hst); (try simp only [pz, pn, sz, sc]); refine re ?_
  refine r1 8 ?_; (refine ka 13 hst tz306 rfl rfl ?_; clear hst; intro b13 w hb13 hst); (try simp only [pz, pn, sz, sc]); refine re ?_
  refine r1 9 ?_; (refine kt hst ta306 rfl rfl ?_; clear hst; intro w hst); (try simp only [pz, pn, sz, sc]); refine re ?_
  refine rd_ ?_
  rotate_left 1
  (refine ka 13 hst tz306 rfl rfl ?_; clear hst; intro b13 w hb13 hst); (try simp only [pz, pn, sz, sc]); refine re ?_
  refine r1 7 ?_; (refine kf gf269 hst (hst5) rfl rfl rfl rfl ?_; clear hst; intro w hst); (try simp only [pz, pn, sz, sc]); refine re ?_
  refine r1 9 ?_; (refine kt hst ta306 rfl rfl ?_; clear hst; intro w hst); (try simp only [pz, pn, sz, sc]); refine re ?_
  refine rd_ ?_
  rotate_right 1
  rotate_left 2
  (refine ka 13 hst tz306 rfl rfl ?_; clear hst; intro b13 w hb13 hst); (try simp only [pz, pn, sz, sc]); refine re ?_
  refine r1 5 ?_; (refine kT gf267 hst (fun w hst => hfi w (hst.own _ _ (by repeat (first | exact List.Mem.head _ | refine List.Mem.tail _ ?_)))) rfl rfl rfl rfl ?_; clear hst; intro w hst); (try simp only [pz, pn, sz, sc]); refine re ?_
  refine r1 7 ?_; (refine kf gf269 hst (hst5) rfl rfl rfl rfl ?_; clear hst; intro w hst); (try simp only [pz, pn, sz, sc]); refine re ?_
  refine r1 9 ?_; (refine kt hst ta306 rfl rfl ?_; clear hst; intro w hst); (try simp only [pz, pn, sz, sc]); refine re ?_
  refine rd_ ?_
  rotate_right 2
  all_goals
    go_wp2_with fail
    refine wp_region_TV 7 [(b13, .cells (wc 8 g5 ++ wc 8 h5) 306)] hst (by kernel_rfl) ?_; clear hst; intro w hst; (try simp only [List.length_cons, List.length_nil, Nat.reduceAdd, Array.replicate_succ, Array.replicate_zero, List.push_toArray, List.nil_append, List.cons_append])
    refine r0 0 ?_; simp only [pz, pn, sz, sc]
    refine r0 2 ?_; simp only [pz, pn, sz, sc]
    refine rl 1 rfl ?_ (by first | exact ylA ta44 | exact ylM ta44); simp only [pz, pn, sz, sc]
    refine rl 3 rfl ?_ (by first | exact ylA ta44 | exact ylM ta44); simp only [pz, pn, sz, sc]
    refine r1 4 ?_; (refine kt hst ta44 rfl rfl ?_; clear hst; intro w hst); (try simp only [pz, pn, sz, sc]); refine re ?_
    refine r1 5 ?_; (refine kt hst ta44 rfl rfl ?_; clear hst; intro w hst); (try simp only [pz, pn, sz, sc]); refine re ?_
    refine r0 6 ?_; simp only [pz, pn, sz, sc]
    refine rd_ ?_
    go_wp2_with fail
    refine bp_cct rfl rfl (la hst ta44) (la hst ta44) (by rfl) ⟨?_, hst.keeps, own_one (hst.own _ _ (by simp))⟩
    rfl

def goldG (u : Nat) : Nat := (goldS u 5).1 / 2 ^ 32
theorem goldG_near (u : Nat) (h1 : 2 ^ 254 ≤ u) (h2 : u < 2 ^ 256) : goldG u ≤ isqrt u + 1 ∧ isqrt u ≤ goldG u + 1 := by
  have hs := isqrt_spec (n := u) (by rw [four_128]; exact h2)
  exact goldroot_last u (isqrt u) h1 (by rw [show K * K = 2 ^ 256 by decide]; exact h2) hs.1.1 hs.1.2
theorem goldS_M (u : Nat) (h1 : 2 ^ 254 ≤ u) (h2 : u < 2 ^ 256) : (goldS u 5).1 < M := by
  have I := gold_near u h1 (by rw [show K * K = 2 ^ 256 by decide]; exact h2) 5 (by omega)
  have := (I.small (by omega)).1
  exact Nat.lt_of_le_of_lt this (small_M (by decide))

set_option maxHeartbeats 8000000 in
theorem groot_Root (be br : Nat) (c : Array Value) (hc : RomOk c) (hne : be ≠ br) (n : Nat) (hn : n < M) (w0 : World) (he : w0.heap[be]? = some (.cells #[.pointer (some ⟨br, 0, none⟩)] 214)) (hr : w0.heap[br]? = some (.cells c 121)) :
    GivesT Tryz.prog 266 #[.pointer (some ⟨be, 0, none⟩), W n] (rootV n) [(br, .cells c 121)] [(br, .cells (romTo n c) 121)] w0 := by
  have hst := St.eng hne he hr
  have hlt := lt_of_some he
  have hltr := lt_of_some hr
  unfold rootV
  by_cases h0 : n = 0
  · have hp := groot_Pair_no be n 5 hn (.inl ⟨h0, rfl⟩)
    subst h0
    rw [romTo_zero]
    have e0 : isqrt 0 = 0 := (isqrt_of (by decide) ⟨by decide, by decide⟩).symm
    rw [if_pos (show 0 < 2 ^ 256 by decide), e0]
    clear hc he hr
    go_enter Tryz.func266, Tryz.ntmps266
    go_wp2_with ((first | (refine kf gf268 hst (hp) rfl rfl rfl rfl ?_; clear hst; intro w hst) | (refine kb 3 hst rfl rfl ?_; clear hst; intro b3 w hb3 hst) | (refine ka 4 hst tz44 rfl rfl ?_; clear hst; intro b4 w hb4 hst) | (refine ka 5 hst tz44 rfl rfl ?_; clear hst; intro b5 w hb5 hst) | (refine kl hst ta44 rfl ?_) | (refine ka 7 hst tz44 rfl rfl ?_; clear hst; intro b7 w hb7 hst) | (refine ka 8 hst tz44 rfl rfl ?_; clear hst; intro b8 w hb8 hst) | (refine kt hst ta44 rfl rfl ?_; clear hst; intro w hst)); try simp only [pz, pn, sz, sc])
    refine bp_cct rfl rfl (la hst ta44) (la hst ta44) (by rfl) ⟨?_, hst.keeps, own_one (hst.own _ _ (by simp))⟩
    rw [W_zero]; rfl
  · by_cases h : n < 2 ^ 256
    · rw [romTo_made c h0 h, if_pos h]
      have hnorm := srtroot_Norm n h0 h hn
      obtain ⟨u1, u2⟩ := norm_up n h0 h
      have hp := fun (w : World) (q : w.heap[be]? = some (.cells #[.pointer (some ⟨br, 0, none⟩)] 214)) (h' : w.heap[br]? = some (.cells c 121)) => groot_Pair be br c hc hne n h0 h hn w q h'
      obtain ⟨g1, g2⟩ := goldG_near _ u1 u2
      have hfix := fix_Root (n * 2 ^ nby n) (goldG (n * 2 ^ nby n)) 4 u2 g1 g2 (by omega) (by omega)
      have hsp := isqrt_spec (n := n * 2 ^ nby n) (by rw [four_128]; exact u2)
      have hs := @isqrt_up n _ h hsp.1
      obtain ⟨q1, q2, q3⟩ := sqrt_le h
      have hsq := prod_Square (isqrt n) q3
      rw [Nat.mod_eq_of_lt q2] at hsq
      have hsub := wide_Sub n (isqrt n * isqrt n) hn q2
      rw [sub_sq h] at hsub
      have hx : (nby n : Int).tdiv 2 = ((nby n / 2 : Nat) : Int) := by rw [Int.tdiv_eq_ediv_of_nonneg (by omega)]; omega
      have hx' : (nby n : Int) / 2 = ((nby n / 2 : Nat) : Int) := by omega
      have hxl : nby n / 2 ≤ 128 := by unfold nby; omega
      have hshr := wide_Shr (isqrt (n * 2 ^ nby n)) ((nby n / 2 : Nat) : Int) (Nat.lt_trans hsp.2 (small_M (by decide)))
      rw [clampN_nat _ (by omega), hs] at hshr
      have hshg := wide_Shr (goldS (n * 2 ^ nby n) 5).1 32 (goldS_M _ u1 u2)
      rw [show clampN 32 = 32 from rfl, show (goldS (n * 2 ^ nby n) 5).1 / 2 ^ 32 = goldG (n * 2 ^ nby n) from rfl] at hshg
      clear hsp hs u1 u2 g1 g2 q1 q2 q3 h h0 hc he hr
      generalize off (goldG (n * 2 ^ nby n)) (isqrt (n * 2 ^ nby n)) = d at *
      generalize goldG (n * 2 ^ nby n) = g at *
      generalize (goldS (n * 2 ^ nby n) 5).1 = g5 at *
      generalize (goldS (n * 2 ^ nby n) 5).2 = h5 at *
      generalize n * 2 ^ nby n - isqrt (n * 2 ^ nby n) * isqrt (n * 2 ^ nby n) = ru at *
      generalize isqrt (n * 2 ^ nby n) = su at *
      generalize n - isqrt n * isqrt n = rv at *
      generalize isqrt n * isqrt n = sv at *
      generalize isqrt n = s at *
      generalize nby n / 2 = x at *
      generalize n * 2 ^ nby n = up at *
      generalize romF = cf at *
      go_enter Tryz.func266, Tryz.ntmps266
      go_wp2_with ((first | (refine kT gf268 hst (fun w hst => hp w (hst.own _ _ (by repeat (first | exact List.Mem.head _ | refine List.Mem.tail _ ?_))) (hst.own _ _ (by repeat (first | exact List.Mem.head _ | refine List.Mem.tail _ ?_)))) rfl rfl rfl rfl ?_; clear hst; intro w hst) | (refine kf gf225 hst (hnorm) rfl rfl rfl rfl ?_; clear hst; intro w hst) | (refine kf gf87 hst (hshg) rfl rfl rfl rfl ?_; clear hst; intro w hst) | (refine kf gf245 hst (hfix) rfl rfl rfl rfl ?_; clear hst; intro w hst) | (refine kf gf87 hst (hshr) rfl rfl rfl rfl ?_; clear hst; intro w hst) | (refine kf gf71 hst (hsq) rfl rfl rfl rfl ?_; clear hst; intro w hst) | (refine kf gf122 hst (hsub) rfl rfl rfl rfl ?_; clear hst; intro w hst) | (refine kb 3 hst rfl rfl ?_; clear hst; intro b3 w hb3 hst) | (refine ka 4 hst tz44 rfl rfl ?_; clear hst; intro b4 w hb4 hst) | (refine ka 5 hst tz44 rfl rfl ?_; clear hst; intro b5 w hb5 hst) | (refine kl hst ta44 rfl ?_) | (refine ka 7 hst tz44 rfl rfl ?_; clear hst; intro b7 w hb7 hst) | (refine ka 8 hst tz44 rfl rfl ?_; clear hst; intro b8 w hb8 hst) | (refine kt hst ta44 rfl rfl ?_; clear hst; intro w hst) | (refine ka 10 hst tz44 rfl rfl ?_; clear hst; intro b10 w hb10 hst) | (refine ka 13 hst tz44 rfl rfl ?_; clear hst; intro b13 w hb13 hst) | (refine ka 15 hst tz44 rfl rfl ?_; clear hst; intro b15 w hb15 hst) | (refine ka 16 hst tz44 rfl rfl ?_; clear hst; intro b16 w hb16 hst) | (refine ka 18 hst tz44 rfl rfl ?_; clear hst; intro b18 w hb18 hst) | (refine ka 20 hst tz44 rfl rfl ?_; clear hst; intro b20 w hb20 hst)); try simp only [pz, pn, sz, sc])
      refine wp_region_TV 6 [(b20, .cells (wc 8 rv) 44), (b15, .cells (wc 8 s) 44)] hst (by kernel_rfl) ?_; clear hst; intro w hst; (try simp only [List.length_cons, List.length_nil, Nat.reduceAdd, Array.replicate_succ, Array.replicate_zero, List.push_toArray, List.nil_append, List.cons_append])
      refine r0 2 ?_; simp only [pz, pn, sz, sc]
      refine rl 0 rfl ?_ (by first | exact ylA ta44 | exact ylM ta44); simp only [pz, pn, sz, sc]
      refine rl 1 rfl ?_ (by first | exact ylA ta44 | exact ylM ta44); simp only [pz, pn, sz, sc]
      refine r1 3 ?_; (refine kt hst ta44 rfl rfl ?_; clear hst; intro w hst); (try simp only [pz, pn, sz, sc]); refine re ?_
      refine r1 4 ?_; (refine kt hst ta44 rfl rfl ?_; clear hst; intro w hst); (try simp only [pz, pn, sz, sc]); refine re ?_
      refine r0 5 ?_; simp only [pz, pn, sz, sc]
      refine rd_ ?_
      go_wp2_with fail
      refine bp_cct rfl rfl (la hst ta44) (la hst ta44) (by rfl) ⟨?_, hst.keeps, own_one (hst.own _ _ (by simp))⟩
      rfl
    · have hp := groot_Pair_no be n 4 hn (.inr ⟨by omega, rfl⟩)
      rw [romTo_big c h, if_neg h]
      clear h h0 hc he hr
      go_enter Tryz.func266, Tryz.ntmps266
      go_wp2_with ((first | (refine kf gf268 hst (hp) rfl rfl rfl rfl ?_; clear hst; intro w hst) | (refine kb 3 hst rfl rfl ?_; clear hst; intro b3 w hb3 hst) | (refine ka 4 hst tz44 rfl rfl ?_; clear hst; intro b4 w hb4 hst) | (refine ka 5 hst tz44 rfl rfl ?_; clear hst; intro b5 w hb5 hst) | (refine kl hst ta44 rfl ?_) | (refine ka 7 hst tz44 rfl rfl ?_; clear hst; intro b7 w hb7 hst) | (refine ka 8 hst tz44 rfl rfl ?_; clear hst; intro b8 w hb8 hst) | (refine kt hst ta44 rfl rfl ?_; clear hst; intro w hst)); try simp only [pz, pn, sz, sc])
      refine bp_cct rfl rfl (la hst ta44) (la hst ta44) (by rfl) ⟨?_, hst.keeps, own_one (hst.own _ _ (by simp))⟩
      rw [W_zero]; rfl

end Go.Proofs.YtefpoconpeggpaaGreatDoor.Rd

namespace Go.Proofs.YtefpoconpeggpaaGreatDoor.Rd
open Go Go.RowKit
set_option linter.unusedVariables false
set_option linter.unusedSimpArgs false
set_option maxRecDepth 100000

/-- One new block, and a pointer to it. -/
def OneNew (o : Obj) (Lg : List (Nat × Obj)) (v : Value) : Prop := ∃ b, Lg = [(b, o)] ∧ v = .pointer (some ⟨b, 0, none⟩)
theorem PostN.one {w0 w : World} {L : List (Nat × Obj)} {b : Nat} {o : Obj} (hst : St w0 [] L w) (hb : w0.heap.size ≤ b) (hm : (b, o) ∈ L) : PostN (OneNew o) w0 (.returned (.pointer (some ⟨b, 0, none⟩))) w :=
  PostN.of hst (Lg := [(b, o)]) ⟨by intro x hx; simp at hx; subst hx; exact hb, by simp⟩ ⟨b, rfl, rfl⟩ (fun x hx => by simp at hx; subst hx; exact hm)

theorem rom_zero (w : World) : (Instr.build 121 (List.toArray [])).run Tryz.prog w = .ok (.agg (romC 0 0 0 0 0)) w := by kernel_rfl

theorem rom_New (w0 : World) : GivesN Tryz.prog 31 #[] (OneNew (.cells (romC 0 0 0 0 0) 121)) w0 := by
  have hst := St.start [] w0
  have hz := rom_zero
  generalize romC 0 0 0 0 0 = c at *
  go_enter Tryz.func31, Tryz.ntmps31
  go_wp2_with ((first | (refine kB hz rfl ?_) | (refine kb 2 hst rfl rfl ?_; clear hst; intro b2 w hb2 hst)); try simp only [pz, pn, sz, sc])
  exact bp_t rfl rfl (by rfl) (PostN.one hst (by assumption) (by simp))

theorem newtonroot_New (br : Nat) (w0 : World) : GivesN Tryz.prog 113 #[.pointer (some ⟨br, 0, none⟩)] (OneNew (.cells #[.pointer (some ⟨br, 0, none⟩)] 206)) w0 := by
  have hst := St.start [] w0
  go_enter Tryz.func113, Tryz.ntmps113
  go_wp2_with ((first | (refine kB (tb204_0 _) rfl ?_) | (refine kb 9 hst rfl rfl ?_; clear hst; intro b9 w hb9 hst)); try simp only [pz, pn, sz, sc])
  exact bp_t rfl rfl (by rfl) (PostN.one hst (by assumption) (by simp))

theorem newton_New (br : Nat) (w0 : World) : GivesN Tryz.prog 112 #[.pointer (some ⟨br, 0, none⟩)] (OneNew (.cells #[.pointer (some ⟨br, 0, none⟩)] 202)) w0 := by
  have hst := St.start [] w0
  go_enter Tryz.func112, Tryz.ntmps112
  go_wp2_with ((first | (refine kB (tb200_0 _) rfl ?_) | (refine kb 9 hst rfl rfl ?_; clear hst; intro b9 w hb9 hst)); try simp only [pz, pn, sz, sc])
  exact bp_t rfl rfl (by rfl) (PostN.one hst (by assumption) (by simp))

theorem gold_New (br : Nat) (w0 : World) : GivesN Tryz.prog 114 #[.pointer (some ⟨br, 0, none⟩)] (OneNew (.cells #[.pointer (some ⟨br, 0, none⟩)] 210)) w0 := by
  have hst := St.start [] w0
  go_enter Tryz.func114, Tryz.ntmps114
  go_wp2_with ((first | (refine kB (tb208_0 _) rfl ?_) | (refine kb 9 hst rfl rfl ?_; clear hst; intro b9 w hb9 hst)); try simp only [pz, pn, sz, sc])
  exact bp_t rfl rfl (by rfl) (PostN.one hst (by assumption) (by simp))

theorem goldroot_New (br : Nat) (w0 : World) : GivesN Tryz.prog 115 #[.pointer (some ⟨br, 0, none⟩)] (OneNew (.cells #[.pointer (some ⟨br, 0, none⟩)] 214)) w0 := by
  have hst := St.start [] w0
  go_enter Tryz.func115, Tryz.ntmps115
  go_wp2_with ((first | (refine kB (tb212_0 _) rfl ?_) | (refine kb 9 hst rfl rfl ?_; clear hst; intro b9 w hb9 hst)); try simp only [pz, pn, sz, sc])
  exact bp_t rfl rfl (by rfl) (PostN.one hst (by assumption) (by simp))

/-- A set's cells. -/
def engC (d m : Int) (p : Option Addr) (a1 a2 a3 a4 : Value) (q0 q1 q2 q3 q4 : Int) : Array Value := #[.int .u32 d, .int .i32 m, .int .u32 0, .pointer p, .nilIface, a1, a2, a3, a4, .int .i64 q0, .int .i64 q1, .int .i64 q2, .int .i64 q3, .int .i64 q4]
def engN (p : Option Addr) : Array Value := engC 0 0 p .nilIface .nilIface .nilIface .nilIface 0 0 0 0 0
theorem set_zero (p : Option Addr) (w : World) : (Instr.build 89 (List.toArray [(1, .pointer p)])).run Tryz.prog w = .ok (.agg (engN p)) w := by kernel_rfl

/-- A set that is new. -/
def SetNew (bs br : Nat) (L : List (Nat × Obj)) : Prop := L = [(bs, .cells (engN (some ⟨br, 0, none⟩)) 89), (br, .cells (romC 0 0 0 0 0) 121)]

theorem engine_New (w0 : World) : GivesN Tryz.prog 8 #[] (fun Lg v => ∃ bs br, bs ≠ br ∧ v = .pointer (some ⟨bs, 0, none⟩) ∧ SetNew bs br Lg) w0 := by
  have hst := St.start [] w0
  have hz := set_zero
  have hr := fun w => rom_New w
  unfold SetNew
  generalize romC 0 0 0 0 0 = c at *
  generalize hsN : engN = sN at *
  clear hsN
  go_enter Tryz.func8, Tryz.ntmps8
  go_wp2_with ((first | (refine kN (o := ⟨some 1, _, _, _, _, _⟩) gf31 hst (fun w hst => hr w) rfl rfl rfl rfl ?_; clear hst; intro v1 Lg1 w hn1 hR1 hst; obtain ⟨br, rfl, rfl⟩ := hR1; (try simp only [List.cons_append, List.nil_append, List.append_nil, List.append_assoc] at hst)) | (refine kB (hz _) rfl ?_) | (refine kb 3 hst rfl rfl ?_; clear hst; intro b3 w hb3 hst)); try simp only [pz, pn, sz, sc])
  have hne : b3 ≠ br := by have q := hst.nodup; simpa using q
  have hnb : w0.heap.size ≤ br := hn1.1 _ (List.mem_singleton.2 rfl)
  exact bp_t rfl rfl (by rfl) (PostN.of hst (Lg := [(b3, .cells (sN (some ⟨br, 0, none⟩)) 89), (br, .cells c 121)]) ⟨by intro x hx; simp at hx; rcases hx with rfl | rfl <;> assumption, by simpa using hne⟩ ⟨b3, br, hne, rfl, rfl⟩ (fun x hx => by simpa using hx))

end Go.Proofs.YtefpoconpeggpaaGreatDoor.Rd

namespace Go.Proofs.YtefpoconpeggpaaGreatDoor.Rd
open Go Go.RowKit
set_option linter.unusedVariables false
set_option linter.unusedSimpArgs false
set_option maxRecDepth 100000

/-- The four engines. -/
def eA1 : Value := .iface 169 (.agg #[])
def eA2 : Value := .iface 170 (.agg #[])
def eA3 (b1 b2 : Nat) : Value := .iface 176 (.agg #[.pointer (some ⟨b1, 0, none⟩), .pointer (some ⟨b2, 0, none⟩)])
def eA4 (b3 b4 : Nat) : Value := .iface 182 (.agg #[.pointer (some ⟨b3, 0, none⟩), .pointer (some ⟨b4, 0, none⟩)])
def engR (m d : Int) (br b1 b2 b3 b4 : Nat) (q0 q1 q2 q3 q4 : Int) : Array Value := engC d m (some ⟨br, 0, none⟩) eA1 eA2 (eA3 b1 b2) (eA4 b3 b4) q0 q1 q2 q3 q4
def ptrC (br : Nat) : Array Value := #[.pointer (some ⟨br, 0, none⟩)]
theorem eng_part (br b1 b2 b3 b4 : Nat) : Part (engC 0 1 (some ⟨br, 0, none⟩) .nilIface .nilIface .nilIface .nilIface 0 0 0 0 0) #[.nilIface, .nilIface, .nilIface, .nilIface, .nilIface] (engR 1 0 br b1 b2 b3 b4 0 0 0 0 0) #[.nilIface, eA1, eA2, eA3 b1 b2, eA4 b3 b4] 4 :=
  ⟨#[.int .u32 0, .int .i32 1, .int .u32 0, .pointer (some ⟨br, 0, none⟩)], #[.int .i64 0, .int .i64 0, .int .i64 0, .int .i64 0, .int .i64 0], rfl, rfl, rfl, rfl⟩

set_option maxHeartbeats 8000000 in
theorem engine_ready_1 (b1 bs br : Nat) (E1 : TypeId) (hne : bs ≠ b1) (w0 : World) (h1 : w0.heap[b1]? = some (.cells #[.pointer (some ⟨bs, 0, none⟩)] E1)) (hs : w0.heap[bs]? = some (.cells (engC 0 1 (some ⟨br, 0, none⟩) .nilIface .nilIface .nilIface .nilIface 0 0 0 0 0) 89)) :
    Calls Tryz.prog 111 #[.pointer (some ⟨b1, 0, none⟩)] w0 fun e w' => e = .returned (.tuple #[]) ∧ ∃ c1 c2 c3 c4, NewIn w0.heap.size [(c1, .cells (ptrC br) 202), (c2, .cells (ptrC br) 206), (c3, .cells (ptrC br) 210), (c4, .cells (ptrC br) 214)] ∧
      Keeps [bs] w0 w' ∧ ∀ b o, (b, o) ∈ [(bs, .cells (engR 1 0 br c1 c2 c3 c4 0 0 0 0 0) 89), (c1, .cells (ptrC br) 202), (c2, .cells (ptrC br) 206), (c3, .cells (ptrC br) 210), (c4, .cells (ptrC br) 214)] → w'.heap[b]? = some o := by
  have hst : St w0 [bs] [(bs, .cells (engC 0 1 (some ⟨br, 0, none⟩) .nilIface .nilIface .nilIface .nilIface 0 0 0 0 0) 89), (b1, .cells #[.pointer (some ⟨bs, 0, none⟩)] E1)] w0 := ((St.start [bs] w0).add h1 (by simp)).add hs (by simpa using hne)
  have n1 := fun w => newton_New br w
  have n2 := fun w => newtonroot_New br w
  have n3 := fun w => gold_New br w
  have n4 := fun w => goldroot_New br w
  have hrom : (engC 0 1 (some ⟨br, 0, none⟩) .nilIface .nilIface .nilIface .nilIface 0 0 0 0 0)[3]? = some (.pointer (some ⟨br, 0, none⟩)) := rfl
  have hp := eng_part br
  clear h1 hs
  generalize engC 0 1 (some ⟨br, 0, none⟩) .nilIface .nilIface .nilIface .nilIface 0 0 0 0 0 = cN at *
  go_enter Tryz.func111, Tryz.ntmps111
  refine wp_region_T 32  hst (by kernel_rfl) ?_; clear hst; intro w hst; (try simp only [List.length_cons, List.length_nil, Nat.reduceAdd, Array.replicate_succ, Array.replicate_zero, List.push_toArray, List.nil_append, List.cons_append])
  refine r0 1 ?_; simp only [pz, pn, sz, sc]
  refine r0 2 ?_; simp only [pz, pn, sz, sc]
  refine r0 3 ?_; simp only [pz, pn, sz, sc]
  refine r0 4 ?_; simp only [pz, pn, sz, sc]
  refine rl 0 rfl ?_ (ylC tc30); simp only [pz, pn, sz, sc]
  refine rl 5 rfl ?_ (ylC tc30); simp only [pz, pn, sz, sc]
  refine r0 6 ?_; simp only [pz, pn, sz, sc]
  refine r0 7 ?_; simp only [pz, pn, sz, sc]
  refine rl 8 rfl ?_ (ylC tc67); simp only [pz, pn, sz, sc]
  refine rl 10 rfl ?_ (ylC tc30); simp only [pz, pn, sz, sc]
  refine r0 11 ?_; simp only [pz, pn, sz, sc]
  refine r0 12 ?_; simp only [pz, pn, sz, sc]
  refine rl 13 rfl ?_ (ylC tc67); simp only [pz, pn, sz, sc]
  refine rl 17 rfl ?_ (ylC tc30); simp only [pz, pn, sz, sc]
  refine r0 18 ?_; simp only [pz, pn, sz, sc]
  refine r0 19 ?_; simp only [pz, pn, sz, sc]
  refine rl 20 rfl ?_ (ylC tc67); simp only [pz, pn, sz, sc]
  refine rl 22 rfl ?_ (ylC tc30); simp only [pz, pn, sz, sc]
  refine r0 23 ?_; simp only [pz, pn, sz, sc]
  refine r0 24 ?_; simp only [pz, pn, sz, sc]
  refine rl 25 rfl ?_ (ylC tc67); simp only [pz, pn, sz, sc]
  refine r1 9 ?_; (refine kN (o := ⟨some 10, _, _, _, _, _⟩) gf112 hst (fun w hst => n1 w) rfl rfl rfl rfl ?_; clear hst; intro v10 Lg10 w hn10 hR10 hst; obtain ⟨c1, rfl, rfl⟩ := hR10; (try simp only [List.cons_append, List.nil_append, List.append_nil, List.append_assoc] at hst)); (try simp only [pz, pn, sz, sc]); refine re ?_
  refine r1 14 ?_; (refine kN (o := ⟨some 15, _, _, _, _, _⟩) gf113 hst (fun w hst => n2 w) rfl rfl rfl rfl ?_; clear hst; intro v15 Lg15 w hn15 hR15 hst; obtain ⟨c2, rfl, rfl⟩ := hR15; (try simp only [List.cons_append, List.nil_append, List.append_nil, List.append_assoc] at hst)); (try simp only [pz, pn, sz, sc]); refine re ?_
  refine r0 15 ?_ (hy := yB (tb176_01 _ _)); simp only [pz, pn, sz, sc]
  refine r0 16 ?_; simp only [pz, pn, sz, sc]
  refine r1 21 ?_; (refine kN (o := ⟨some 22, _, _, _, _, _⟩) gf114 hst (fun w hst => n3 w) rfl rfl rfl rfl ?_; clear hst; intro v22 Lg22 w hn22 hR22 hst; obtain ⟨c3, rfl, rfl⟩ := hR22; (try simp only [List.cons_append, List.nil_append, List.append_nil, List.append_assoc] at hst)); (try simp only [pz, pn, sz, sc]); refine re ?_
  refine r1 26 ?_; (refine kN (o := ⟨some 27, _, _, _, _, _⟩) gf115 hst (fun w hst => n4 w) rfl rfl rfl rfl ?_; clear hst; intro v27 Lg27 w hn27 hR27 hst; obtain ⟨c4, rfl, rfl⟩ := hR27; (try simp only [List.cons_append, List.nil_append, List.append_nil, List.append_assoc] at hst)); (try simp only [pz, pn, sz, sc]); refine re ?_
  refine r0 27 ?_ (hy := yB (tb182_01 _ _)); simp only [pz, pn, sz, sc]
  refine r0 28 ?_; simp only [pz, pn, sz, sc]
  refine r0 29 ?_; simp only [pz, pn, sz, sc]
  refine r0 30 ?_; simp only [pz, pn, sz, sc]
  refine r0 31 ?_; simp only [pz, pn, sz, sc]
  refine r1 32 ?_; (refine ktm hst ta83 rfl rfl ?_ (hc := hp c1 c2 c3 c4); clear hst; intro w hst); (try simp only [pz, pn, sz, sc]); refine re ?_
  refine rd_ ?_
  go_wp2_with fail
  have hnd := hst.nodup
  refine bp_0 rfl rfl ⟨rfl, c1, c2, c3, c4, ⟨?_, ?_⟩, hst.keeps, fun b o hm => hst.own b o ?_⟩
  · have i1 := hn10.1 _ (List.mem_singleton.2 rfl)
    have i2 := hn15.1 _ (List.mem_singleton.2 rfl)
    have i3 := hn22.1 _ (List.mem_singleton.2 rfl)
    have i4 := hn27.1 _ (List.mem_singleton.2 rfl)
    intro x hx
    simp only [List.mem_cons, List.not_mem_nil, or_false] at hx
    rcases hx with rfl | rfl | rfl | rfl <;> assumption
  · simp only [List.map_cons, List.map_nil, List.nodup_cons, List.mem_cons, List.not_mem_nil, or_false, not_or] at hnd ⊢
    simp only [hnd, not_false_eq_true, and_self, List.nodup_nil]
  · simp only [List.mem_cons, List.not_mem_nil, or_false] at hm ⊢
    rcases hm with h | h | h | h | h <;> simp [h, ptrC]

/-- A call that turns the blocks of L, and brings new ones. -/
def PostZ (S' : List Nat) (L : List (Nat × Obj)) (R : List (Nat × Obj) → Value → Prop) (w : World) (e : Ending) (w' : World) : Prop :=
  ∃ v, e = .returned v ∧ Keeps S' w w' ∧ ∃ L', R L' v ∧ (L'.map Prod.fst).Nodup ∧ (∀ x ∈ L', x.1 ∈ L.map Prod.fst ∨ w.heap.size ≤ x.1) ∧ ∀ b o, (b, o) ∈ L' → w'.heap[b]? = some o
def GivesZ (P : Program) (f : FuncId) (args : Array Value) (S' : List Nat) (L : List (Nat × Obj)) (R : List (Nat × Obj) → Value → Prop) (w : World) : Prop :=
  (∀ x ∈ S', x ∈ L.map Prod.fst) ∧ Calls P f args w (PostZ S' L R w)
/-- The tail of a list, turned. -/
inductive Tail (L L' : List (Nat × Obj)) : List (Nat × Obj) → List (Nat × Obj) → Prop
  | here : Tail L L' L L'
  | there {x X X'} : Tail L L' X X' → Tail L L' (x :: X) (x :: X')
theorem Tail.eq {L L' X X' : List (Nat × Obj)} (h : Tail L L' X X') : ∃ pre, X = pre ++ L ∧ X' = pre ++ L' := by
  induction h with
  | here => exact ⟨[], rfl, rfl⟩
  | there h ih => obtain ⟨pre, rfl, rfl⟩ := ih; exact ⟨_ :: pre, rfl, rfl⟩
theorem St.turn {w0 w w' : World} {S S' : List Nat} {L L' X X' : List (Nat × Obj)} (hst : St w0 S X w) (ht : Tail L L' X X') (hS : ∀ x ∈ S', x ∈ L.map Prod.fst) (hm : ∀ x ∈ S', x ∈ S ∨ w0.heap.size ≤ x)
    (k : Keeps S' w w') (hnd : (L'.map Prod.fst).Nodup) (hnew : ∀ x ∈ L', x.1 ∈ L.map Prod.fst ∨ w.heap.size ≤ x.1) (hown : ∀ b o, (b, o) ∈ L' → w'.heap[b]? = some o) : St w0 S X' w' := by
  obtain ⟨pre, rfl, rfl⟩ := ht.eq
  have hnd0 := hst.nodup
  rw [List.map_append, List.nodup_append] at hnd0
  obtain ⟨n1, n2, n3⟩ := hnd0
  refine ⟨hst.keeps.trans k (fun x hx hlt => ?_), fun b o hb => ?_, ?_⟩
  · rcases hm x hx with h | h
    · exact h
    · omega
  · rcases List.mem_append.1 hb with hb | hb
    · have ho := hst.own b o (List.mem_append.2 (.inl hb))
      rw [k.block b (lt_of_some ho) (fun hx => n3 b (List.mem_map.2 ⟨_, hb, rfl⟩) b (hS b hx) rfl)]
      exact ho
    · exact hown b o hb
  · rw [List.map_append, List.nodup_append]
    refine ⟨n1, hnd, fun x hx y hy e => ?_⟩
    subst e
    obtain ⟨y', hy', e'⟩ := List.mem_map.1 hy
    subst e'
    rcases hnew y' hy' with h | h
    · exact n3 _ hx _ h rfl
    · obtain ⟨z, hz, e⟩ := List.mem_map.1 hx
      have := lt_of_some (hst.own z.1 z.2 (List.mem_append.2 (.inl hz)))
      omega

section
variable {P : Program} {ops : Array Oper} {rest : List Oper} {Q : Exit → Act → World → Prop} {a : Act} {w w0 : World} {S S' : List Nat} {L X : List (Nat × Obj)}
theorem kZ {o : Oper} {c : Call} {x : Operand} {f : FuncId} {cap : Array Value} {args : List Value} {R : List (Nat × Obj) → Value → Prop} (X' : List (Nat × Obj) → List (Nat × Obj)) (hf : GoF P f) (hst : St w0 S X w) (hc : ∀ w, St w0 S X w → GivesZ P f args.toArray S' L R w)
    (ho : o.op = .call c) (hcal : c.callee = .value x) (hx : a.eval x = .func (.func f) #[] cap) (hargs : c.args.toList.map a.eval ++ cap.toList = args)
    (h : ∀ v L' w', R L' v → (∀ x ∈ L', x.1 ∈ L.map Prod.fst ∨ w0.heap.size ≤ x.1) → St w0 S (X' L') w' → wpList P ops Q rest (a.put o.dst v) w')
    (ht : ∀ L', Tail L L' X (X' L') := by intro _; repeat (first | exact Tail.here | apply Tail.there)) (hm : ∀ x ∈ S', x ∈ S ∨ w0.heap.size ≤ x := by (try simp) <;> omega) (hg : o.guard = none := by rfl) : wpList P ops Q (o :: rest) a w := by
  refine wpList_plain hg fun K hK => ?_
  unfold Oper.wp
  rw [run_execOp_call ho hcal hx, args_eq hargs, run_callFunc_go hf, Oper.upon_enter]
  obtain ⟨hS, hc⟩ := hc w hst
  refine hc.mono fun e w'' hh => ?_
  obtain ⟨v, rfl, hk, L', hR, hnd, hnew, hown⟩ := hh
  exact hK _ _ (h v L' w'' hR (fun x hx => (hnew x hx).imp id (fun q => Nat.le_trans hst.keeps.size q)) (hst.turn (ht L') hS hm hk hnd hnew hown))
theorem PostZ.of {R : List (Nat × Obj) → Value → Prop} {L' X' : List (Nat × Obj)} {v : Value} (hst : St w0 S X' w) (hR : R L' v) (hnew : ∀ x ∈ L', x.1 ∈ L.map Prod.fst ∨ w0.heap.size ≤ x.1)
    (ht : Tail L L' X X' := by repeat (first | exact Tail.here | apply Tail.there)) : PostZ S L R w0 (.returned v) w := by
  obtain ⟨pre, rfl, rfl⟩ := ht.eq
  have h := hst.nodup
  rw [List.map_append, List.nodup_append] at h
  exact ⟨v, rfl, hst.keeps, L', hR, h.2.1, hnew, fun b o hb => hst.own b o (List.mem_append.2 (.inr hb))⟩
end

end Go.Proofs.YtefpoconpeggpaaGreatDoor.Rd

namespace Go.Proofs.YtefpoconpeggpaaGreatDoor.Rd
open Go Go.RowKit
set_option linter.unusedVariables false
set_option linter.unusedSimpArgs false
set_option maxRecDepth 100000

/-- The blocks of a set that is ready. -/
def EngL (bs br : Nat) (c : Array Value) (c1 c2 c3 c4 : Nat) (q : Nat → Int) : List (Nat × Obj) := [(bs, .cells (engR 0 1 br c1 c2 c3 c4 (q 0) (q 1) (q 2) (q 3) (q 4)) 89), (br, .cells c 121), (c1, .cells (ptrC br) 202), (c2, .cells (ptrC br) 206), (c3, .cells (ptrC br) 210), (c4, .cells (ptrC br) 214)]
def romN : Array Value := romC 0 0 0 0 0
theorem romN_ok : RomOk romN := Or.inl rfl
/-- A set, ready or not. -/
def SetSt (bs br : Nat) (c : Array Value) (q : Nat → Int) (L : List (Nat × Obj)) : Prop := (SetNew bs br L ∧ c = romN ∧ q = fun _ => 0) ∨ ∃ c1 c2 c3 c4, L = EngL bs br c c1 c2 c3 c4 q
theorem SetSt.bs {bs br : Nat} {c : Array Value} {q : Nat → Int} {L : List (Nat × Obj)} (h : SetSt bs br c q L) : bs ∈ L.map Prod.fst ∧ br ∈ L.map Prod.fst := by
  rcases h with ⟨rfl, _⟩ | ⟨c1, c2, c3, c4, rfl⟩ <;> simp [EngL]
def Owns (w : World) (L : List (Nat × Obj)) : Prop := (L.map Prod.fst).Nodup ∧ ∀ b o, (b, o) ∈ L → w.heap[b]? = some o
theorem St.ofOwns {w : World} {L : List (Nat × Obj)} (S : List Nat) (h : Owns w L) : St w S L w := ⟨Keeps.refl _ _, h.2, h.1⟩
theorem St.owns {w0 w : World} {S : List Nat} {L L' X X' : List (Nat × Obj)} (h : St w0 S X' w) (ht : Tail L L' X X') : Owns w L' := by
  obtain ⟨pre, rfl, rfl⟩ := ht.eq
  have hn := h.nodup
  rw [List.map_append, List.nodup_append] at hn
  exact ⟨hn.2.1, fun b o hb => h.own b o (List.mem_append.2 (.inr hb))⟩

theorem engR_sets (br c1 c2 c3 c4 : Nat) : ((engR 1 0 br c1 c2 c3 c4 0 0 0 0 0).setIfInBounds 0 (.int .u32 1)).setIfInBounds (0 + 1) (.int .i32 0) = engR 0 1 br c1 c2 c3 c4 0 0 0 0 0 := rfl
theorem engN_set (p : Option Addr) : (engN p).setIfInBounds (0 + 1) (.int .i32 1) = engC 0 1 p .nilIface .nilIface .nilIface .nilIface 0 0 0 0 0 := rfl

theorem eng_do (b1 bs br : Nat) (c : Array Value) (q : Nat → Int) (L : List (Nat × Obj)) (hS : SetSt bs br c q L) (E1 : TypeId) (hb1 : b1 ∉ L.map Prod.fst) (w : World) (h1 : w.heap[b1]? = some (.cells #[.pointer (some ⟨bs, 0, none⟩)] E1)) (hL : Owns w L) :
    GivesZ Tryz.prog 110 #[.pointer (some ⟨bs, 0, none⟩), .func (.func 111) #[] #[.pointer (some ⟨b1, 0, none⟩)]] [bs] L (fun L' v => v = .tuple #[] ∧ ∃ c1 c2 c3 c4, L' = EngL bs br c c1 c2 c3 c4 q) w := by
  refine ⟨fun x hx => by rw [List.mem_singleton.1 hx]; exact hS.bs.1, ?_⟩
  rcases hS with ⟨rfl, rfl, rfl⟩ | ⟨c1, c2, c3, c4, rfl⟩
  · obtain ⟨hnd, hown⟩ := hL
    have hbs := hown bs _ (List.Mem.head _)
    have hbr := hown br _ (List.Mem.tail _ (List.Mem.head _))
    simp only [List.map_cons, List.map_nil, List.nodup_cons, List.mem_cons, List.not_mem_nil, or_false, not_or, not_false_eq_true, List.nodup_nil, and_true] at hnd hb1
    have h := once_G 111 gf111 #[.pointer (some ⟨b1, 0, none⟩)] bs 0 89 (engN (some ⟨br, 0, none⟩))
      (fun cs2 w1 w2 => ∃ c1 c2 c3 c4, cs2 = engR 1 0 br c1 c2 c3 c4 0 0 0 0 0 ∧ NewIn w1.heap.size [(c1, .cells (ptrC br) 202), (c2, .cells (ptrC br) 206), (c3, .cells (ptrC br) 210), (c4, .cells (ptrC br) 214)] ∧
        Keeps [bs] w1 w2 ∧ ∀ b o, (b, o) ∈ [(c1, .cells (ptrC br) 202), (c2, .cells (ptrC br) 206), (c3, .cells (ptrC br) 210), (c4, .cells (ptrC br) 214)] → w2.heap[b]? = some o) w hbs rfl rfl
      (fun w1 hw1 k1 => by
        rw [engN_set] at hw1
        refine (engine_ready_1 b1 bs br E1 (fun e => hb1.1 e.symm) w1 (by rw [k1.block b1 (lt_of_some h1) (by simpa using hb1.1)]; exact h1) hw1).mono ?_
        rintro e w2 ⟨rfl, c1, c2, c3, c4, hn, k2, own2⟩
        exact ⟨rfl, _, own2 bs _ (List.Mem.head _), ⟨_, rfl⟩, rfl, c1, c2, c3, c4, rfl, hn, k2, fun b o hm => own2 b o (List.Mem.tail _ hm)⟩)
    refine Calls.mono h ?_
    rintro e w' ⟨rfl, cs2, w1, w2, ⟨c1, c2, c3, c4, rfl, hn, k2, own2⟩, k1, k3, hb'⟩
    rw [engR_sets] at hb'
    have hk : Keeps [bs] w w' := (k1.trans k2 (fun x hx _ => hx)).trans k3 (fun x hx _ => hx)
    have hlt : ∀ x ∈ [(c1, Obj.cells (ptrC br) 202), (c2, .cells (ptrC br) 206), (c3, .cells (ptrC br) 210), (c4, .cells (ptrC br) 214)], w.heap.size ≤ x.1 := fun x hx => Nat.le_trans k1.size (hn.1 x hx)
    have hbsl := lt_of_some hbs
    have hbrl := lt_of_some hbr
    refine ⟨_, rfl, hk, _, ⟨rfl, c1, c2, c3, c4, rfl⟩, ?_, ?_, ?_⟩
    · have hn2 := hn.2
      have l1 := hlt _ (List.Mem.head _)
      have l2 := hlt _ (List.Mem.tail _ (List.Mem.head _))
      have l3 := hlt _ (List.Mem.tail _ (List.Mem.tail _ (List.Mem.head _)))
      have l4 := hlt _ (List.Mem.tail _ (List.Mem.tail _ (List.Mem.tail _ (List.Mem.head _))))
      simp only [EngL, List.map_cons, List.map_nil, List.nodup_cons, List.mem_cons, List.not_mem_nil, or_false, not_or] at hn2 l1 l2 l3 l4 ⊢
      simp only [hn2, not_false_eq_true, and_self, List.nodup_nil, and_true]
      exact ⟨⟨hnd, by omega, by omega, by omega, by omega⟩, by omega, by omega, by omega, by omega⟩
    · intro x hx
      simp only [EngL] at hx
      rcases List.mem_cons.1 hx with rfl | hx
      · exact .inl (by simp)
      · rcases List.mem_cons.1 hx with rfl | hx
        · exact .inl (by simp)
        · exact .inr (hlt x hx)
    · intro b o hm
      simp only [EngL] at hm
      rcases List.mem_cons.1 hm with e | hm
      · obtain ⟨rfl, rfl⟩ := Prod.mk.injEq .. ▸ e; exact hb'
      · rcases List.mem_cons.1 hm with e | hm
        · obtain ⟨rfl, rfl⟩ := Prod.mk.injEq .. ▸ e
          rw [hk.block b hbrl (by simpa using fun e => hnd e.symm)]; exact hbr
        · have := own2 b o hm
          rw [k3.block b (lt_of_some this) (by have := hlt _ hm; simp; omega)]; exact this
  · have hbs := hL.2 bs _ (List.Mem.head _)
    have c0 : w.cell? ⟨bs, 0, none⟩ = some (.int .u32 1) := by rw [cell_of_row w bs 0 _ _ _ hbs]; rfl
    refine (on_done ⟨bs, 0, none⟩ 1 (by omega) _ w c0).mono ?_
    rintro e w' ⟨rfl, rfl⟩
    exact ⟨_, rfl, Keeps.refl _ _, _, ⟨rfl, c1, c2, c3, c4, rfl⟩, hL.1, fun x hx => .inl (List.mem_map.2 ⟨x, hx, rfl⟩), hL.2⟩

end Go.Proofs.YtefpoconpeggpaaGreatDoor.Rd

namespace Go.Proofs.YtefpoconpeggpaaGreatDoor.Rd
open Go Go.RowKit
set_option linter.unusedVariables false
set_option linter.unusedSimpArgs false
set_option maxRecDepth 100000

theorem engine_ready (bs br : Nat) (c : Array Value) (q : Nat → Int) (L : List (Nat × Obj)) (hS : SetSt bs br c q L) (w0 : World) (hL : Owns w0 L) :
    GivesZ Tryz.prog 92 #[.pointer (some ⟨bs, 0, none⟩)] [bs] L (fun L' v => v = .tuple #[] ∧ ∃ c1 c2 c3 c4, L' = EngL bs br c c1 c2 c3 c4 q) w0 := by
  refine ⟨fun x hx => by rw [List.mem_singleton.1 hx]; exact hS.bs.1, ?_⟩
  have hst := St.ofOwns [bs] hL
  have hdo := fun (b1 : Nat) (w : World) (hst : St w0 [bs] ((b1, .cells #[.pointer (some ⟨bs, 0, none⟩)] 30) :: L) w) => eng_do b1 bs br c q L hS 30 (List.nodup_cons.1 hst.nodup).1 w (hst.own _ _ (List.Mem.head _)) (hst.owns (L := L) (.there .here))
  clear hS hL
  go_enter Tryz.func92, Tryz.ntmps92
  go_wp2_with ((first | (refine kZ (fun L' => (b1, .cells #[.pointer (some ⟨bs, 0, none⟩)] 30) :: L') gf110 hst (fun w hst => hdo b1 w hst) rfl rfl rfl rfl ?_; clear hst; intro v6 L' w hR hnew hst; obtain ⟨rfl, hR⟩ := hR) | (refine kb 1 hst rfl rfl ?_; clear hst; intro b1 w hb1 hst) | (refine kc hst tc30 rfl ?_)); try simp only [pz, pn, sz, sc])
  exact bp_0 rfl rfl (PostZ.of hst ⟨rfl, hR⟩ hnew)

theorem engine_is_yes (k : Int) (h1 : 1 ≤ k) (h2 : k ≤ 4) : Gives Tryz.prog 91 #[.int .i64 k] (.bool true) := by
  intro w0
  have hst := St.start [] w0
  have q1 : k < 5 := by omega
  go_enter Tryz.func91, Tryz.ntmps91
  go_wp2_with fail
  refine bp_t rfl rfl (by rfl) ⟨?_, hst.keeps⟩
  rfl
/-- The engine of a number. -/
def engA (k : Nat) (c1 c2 c3 c4 : Nat) : Value := if k = 1 then eA1 else if k = 2 then eA2 else if k = 3 then eA3 c1 c2 else eA4 c3 c4
theorem engR_at (d m : Int) (br c1 c2 c3 c4 : Nat) (q0 q1 q2 q3 q4 : Int) (k : Nat) (h1 : 1 ≤ k) (h2 : k ≤ 4) : (engR d m br c1 c2 c3 c4 q0 q1 q2 q3 q4)[4 + k]? = some (engA k c1 c2 c3 c4) := by
  obtain rfl | rfl | rfl | rfl : k = 1 ∨ k = 2 ∨ k = 3 ∨ k = 4 := by omega
  all_goals rfl

set_option maxHeartbeats 1000000 in
theorem engine_Of (bs br : Nat) (c : Array Value) (q : Nat → Int) (L : List (Nat × Obj)) (hS : SetSt bs br c q L) (k : Nat) (h1 : 1 ≤ k) (h2 : k ≤ 4) (w0 : World) (hL : Owns w0 L) :
    GivesZ Tryz.prog 61 #[.pointer (some ⟨bs, 0, none⟩), .int .i64 k] [bs] L (fun L' v => ∃ c1 c2 c3 c4, v = .tuple #[engA k c1 c2 c3 c4, .bool true] ∧ L' = EngL bs br c c1 c2 c3 c4 q) w0 := by
  refine ⟨fun x hx => by rw [List.mem_singleton.1 hx]; exact hS.bs.1, ?_⟩
  have hst := St.ofOwns [bs] hL
  have hrd := fun (w : World) (hst : St w0 [bs] L w) => engine_ready bs br c q L hS w (hst.owns (L := L) .here)
  have his := engine_is_yes k (by omega) (by omega)
  have i1 : (0 : Int) ≤ (k : Int) := by omega
  have i2 : (k : Int) < 5 := by omega
  have hat := fun c1 c2 c3 c4 => engR_at 0 1 br c1 c2 c3 c4 (q 0) (q 1) (q 2) (q 3) (q 4) k h1 h2
  have hA := fun c1 c2 c3 c4 => (rfl : engA k c1 c2 c3 c4 = engA k c1 c2 c3 c4)
  clear hS hL h1 h2 hA
  go_enter Tryz.func61, Tryz.ntmps61
  go_wp2_with ((first | (refine kf gf91 hst (his) rfl rfl rfl rfl ?_; clear hst; intro w hst) | (refine kZ (fun L' => L') gf92 hst (fun w hst => hrd w hst) rfl rfl rfl rfl ?_; clear hst; intro v14 L' w hR hnew hst; obtain ⟨rfl, c1, c2, c3, c4, rfl⟩ := hR; have hv := hat c1 c2 c3 c4) | (refine wl_guard (by rfl) ?_) | (refine kc hst tc82 rfl ?_)); try simp only [pz, pn, sz, sc])
  exact bp_tt rfl rfl (by rfl) (by rfl) (PostZ.of hst ⟨c1, c2, c3, c4, rfl, rfl⟩ hnew)

end Go.Proofs.YtefpoconpeggpaaGreatDoor.Rd
