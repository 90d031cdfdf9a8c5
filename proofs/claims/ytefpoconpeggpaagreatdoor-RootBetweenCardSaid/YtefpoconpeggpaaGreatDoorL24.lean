/- The mathematics of goldroot: a round. -/
import Derived.Test.YtefpoconpeggpaaGreatDoorL19
import Derived.Test.YtefpoconpeggpaaGreatDoorL17
namespace Go.Proofs.YtefpoconpeggpaaGreatDoor.Rd
open Go Go.RowKit
set_option linter.unusedVariables false
set_option linter.unusedSimpArgs false
set_option maxRecDepth 100000

section
variable {P : Program} {Q : Exit → Act → World → Prop} {md : Region.Mode} {V : World → Prop} {n : Nat} {a : Act} {w : World} {fuel : Nat} {listed : Array Bool} {l rs rs' rs2 : List Oper} {oi oj ok : Oper}
/-- Three may come up. -/
theorem r3 (i j k : Nat) (h : wpList P l.toArray (Exit.then (fun a' w' => ((listed.setIfInBounds i true).getD n false = true ∨ V w') ∧ anyT P md l.toArray Q n V fuel (listed.setIfInBounds i true) a' w') Q) [oi] a w)
    (h' : wpList P l.toArray (Exit.then (fun a' w' => ((listed.setIfInBounds j true).getD n false = true ∨ V w') ∧ anyT P md l.toArray Q n V fuel (listed.setIfInBounds j true) a' w') Q) [oj] a w)
    (h2 : wpList P l.toArray (Exit.then (fun a' w' => ((listed.setIfInBounds k true).getD n false = true ∨ V w') ∧ anyT P md l.toArray Q n V fuel (listed.setIfInBounds k true) a' w') Q) [ok] a w)
    (hi' : l.drop i = oi :: rs := by rfl) (hj' : l.drop j = oj :: rs' := by rfl) (hk' : l.drop k = ok :: rs2 := by rfl) (hr : Region.ready md l.toArray listed = [i, j, k] := by kernel_rfl) : anyT P md l.toArray Q n V (fuel + 1) listed a w := by
  refine ⟨fun h0 => absurd (hr ▸ h0) (by simp), fun x hx => ?_⟩
  rw [hr] at hx
  simp only [List.mem_cons, List.not_mem_nil, or_false] at hx
  rcases hx with rfl | rfl | rfl
  · exact wpOp_of_list (get_of_drop hi') h
  · exact wpOp_of_list (get_of_drop hj') h'
  · exact wpOp_of_list (get_of_drop hk') h2
end

/-- An engine's block, and its rom's. -/
theorem St.eng {be br : Nat} {c : Array Value} {o : Obj} {E : TypeId} {w0 : World} (hne : be ≠ br) (he : w0.heap[be]? = some o) (hr : w0.heap[br]? = some (.cells c E)) : St w0 [br] [(be, o), (br, .cells c E)] w0 :=
  ((St.start [br] w0).add hr (by simp)).add he (by simpa using hne)

set_option maxHeartbeats 8000000 in
theorem nroot_reciprocal (be br : Nat) (c : Array Value) (hc : RomOk c) (hne : be ≠ br) (n : Nat) (h1 : 2 ^ 254 ≤ n) (h2 : n < 2 ^ 256) (w0 : World) (he : w0.heap[be]? = some (.cells #[.pointer (some ⟨br, 0, none⟩)] 206)) (hr : w0.heap[br]? = some (.cells c 121)) :
    GivesT Tryz.prog 247 #[.pointer (some ⟨be, 0, none⟩), W n, .int .i64 5] (W (nrootY n 5)) [(br, .cells c 121)] [(br, .cells romF 121)] w0 := by
  have hst := St.eng hne he hr
  have hlt := lt_of_some he
  have hltr := lt_of_some hr
  have hseed := fun (w : World) (h : w.heap[br]? = some (.cells c 121)) => nroot_seed br c hc n h1 h2 w h
  have hbet := Lib.hid (fun m (hm : m ≤ 5) => nroot_better n m h1 h2 hm)
  clear he hr hc h1 h2
  generalize romF = cf at *
  go_enter Tryz.func247, Tryz.ntmps247
  go_wp2_with ((first | (refine kb 4 hst rfl rfl ?_; clear hst; intro b4 w hb4 hst) | (refine ka 6 hst tz44 rfl rfl ?_; clear hst; intro b6 w hb6 hst)); try simp only [pz, pn, sz, sc])
  refine wp_region_TV 8 [(b4, .cells (wc 8 n) 44), (be, .cells #[.pointer (some ⟨br, 0, none⟩)] 206)] hst (by kernel_rfl) ?_; clear hst; intro w hst; (try simp only [List.length_cons, List.length_nil, Nat.reduceAdd, Array.replicate_succ, Array.replicate_zero, List.push_toArray, List.nil_append, List.cons_append])
  refine r0 0 ?_; simp only [pz, pn, sz, sc]
  refine r0 1 ?_; simp only [pz, pn, sz, sc]
  refine r0 2 ?_; simp only [pz, pn, sz, sc]
  refine rl 3 rfl ?_ (by first | exact ylA ta204 | exact ylM ta204); simp only [pz, pn, sz, sc]
  refine rl 4 rfl ?_ (by first | exact ylA ta44 | exact ylM ta44); simp only [pz, pn, sz, sc]
  refine r2 5 6 ?_ ?_
  (refine kT gf256 hst (fun w hst => hseed w (hst.own _ _ (by repeat (first | exact List.Mem.head _ | refine List.Mem.tail _ ?_)))) rfl rfl rfl rfl ?_; clear hst; intro w hst); (try simp only [pz, pn, sz, sc]); refine re ?_
  refine r1 6 ?_; (refine ka 8 hst tz44 rfl rfl ?_; clear hst; intro b8 w hb8 hst); (try simp only [pz, pn, sz, sc]); refine re ?_
  refine r1 7 ?_; (refine kt hst ta44 rfl rfl ?_; clear hst; intro w hst); (try simp only [pz, pn, sz, sc]); refine re ?_
  refine rd_ ?_
  rotate_left 1
  (refine ka 8 hst tz44 rfl rfl ?_; clear hst; intro b8 w hb8 hst); (try simp only [pz, pn, sz, sc]); refine re ?_
  refine r1 5 ?_; (refine kT gf256 hst (fun w hst => hseed w (hst.own _ _ (by repeat (first | exact List.Mem.head _ | refine List.Mem.tail _ ?_)))) rfl rfl rfl rfl ?_; clear hst; intro w hst); (try simp only [pz, pn, sz, sc]); refine re ?_
  refine r1 7 ?_; (refine kt hst ta44 rfl rfl ?_; clear hst; intro w hst); (try simp only [pz, pn, sz, sc]); refine re ?_
  refine rd_ ?_
  rotate_right 1
  all_goals
    go_wp2_with fail
    clear hseed
    go_loopw [17] (fun i wr => ∃ k : Nat, k ≤ 5 ∧ i = .int .i64 k ∧ St w0 [br] [(b8, .cells (wc 8 (nrootY n k)) 44), (b6, .cells (wc 8 0) 44), (b4, .cells (wc 8 n) 44), (br, .cells cf 121)] wr) (fun i _ => 5 - (intOf i).toNat)
    case atStart => exact ⟨0, by omega, rfl, hst.sub (by repeat (first | exact List.Sublist.refl _ | exact List.nil_sublist _ | refine List.Sublist.cons_cons _ ?_ | refine List.Sublist.cons _ ?_))⟩
    case round =>
      clear hst
      obtain ⟨k, hk, rfl, hst⟩ := hrel
      by_cases hlt : k < 5
      · have hi5 : (k : Int) < 5 := by omega
        have hb := fun (w : World) (h : w.heap[b4]? = some (.cells (wc 8 n) 44)) => hbet.out k (by omega) b4 _ w h
        have hgf := gf254
        go_wp2_with ((first | (refine kg hgf hst (fun w hst => hb w (hst.own _ _ (by simp))) rfl rfl rfl rfl ?_; clear hst; intro w hst) | (refine kl hst ta44 rfl ?_) | (refine kt hst ta44 rfl rfl ?_; clear hst; intro w hst)); try simp only [pz, pn, sz, sc])
        go_roundw
        case rel => exact ⟨k + 1, by omega, by go_num, hst.sub (by repeat (first | exact List.Sublist.refl _ | exact List.nil_sublist _ | refine List.Sublist.cons_cons _ ?_ | refine List.Sublist.cons _ ?_))⟩
        case measure => simp [intOf]; omega
      · have : k = 5 := by omega
        subst this
        go_wp2_with ((first | (refine kl hst ta44 rfl ?_) | (refine kt hst ta44 rfl rfl ?_; clear hst; intro w hst)); try simp only [pz, pn, sz, sc])
        first | exact bp_c rfl rfl (la hst ta44) (GivesT.of hst rfl (by simp)) | exact bp_c rfl rfl (la hst ta44) ⟨rfl, hst.keeps, hst.own _ _ (by simp)⟩

/-- The guess for the root of what is shifted up. -/
def nrootG (u : Nat) : Nat := u * nrootY u 5 / (R * K)
theorem nrootG_near (u : Nat) (h1 : 2 ^ 254 ≤ u) (h2 : u < 2 ^ 256) : nrootG u ≤ isqrt u + 1 ∧ isqrt u ≤ nrootG u + 1 := by
  have hs := isqrt_spec (n := u) (by rw [four_128]; exact h2)
  exact nroot_last u (isqrt u) h1 (by rw [show K * K = 2 ^ 256 by decide]; exact h2) hs.1.1 hs.1.2

set_option maxHeartbeats 4000000 in
theorem newtonroot_guess (be br : Nat) (c : Array Value) (hc : RomOk c) (hne : be ≠ br) (n : Nat) (h1 : 2 ^ 254 ≤ n) (h2 : n < 2 ^ 256) (w0 : World) (he : w0.heap[be]? = some (.cells #[.pointer (some ⟨br, 0, none⟩)] 206)) (hr : w0.heap[br]? = some (.cells c 121)) :
    GivesT Tryz.prog 243 #[.pointer (some ⟨be, 0, none⟩), W n] (W (nrootG n)) [(br, .cells c 121)] [(br, .cells romF 121)] w0 := by
  have hst := St.eng hne he hr
  have hlt := lt_of_some he
  have hltr := lt_of_some hr
  have hrec := fun (w : World) (q : w.heap[be]? = some (.cells #[.pointer (some ⟨br, 0, none⟩)] 206)) (h : w.heap[br]? = some (.cells c 121)) => nroot_reciprocal be br c hc hne n h1 h2 w q h
  have hnM : n < M := small_M (by omega)
  have hG : n * nrootY n 5 / (R * K) < M := by
    have h3 := (nrootG_near n h1 h2).1
    have h4 := (isqrt_spec (n := n) (by rw [four_128]; exact h2)).2
    have h5 : nrootG n < 4 * 2 ^ 256 := by omega
    exact small_M h5
  have hyM : nrootY n 5 < M := by
    have := (rootI_most n 5 h1 (by rw [show K * K = 2 ^ 256 by decide]; exact h2) (by omega)).1
    have h3 : 3 * R < 4 * 2 ^ 256 := by decide
    exact small_M (by omega)
  have ht : Gives Tryz.prog 246 #[W n, W (nrootY n 5), .int .i64 288] (W (nrootG n)) := by
    obtain ⟨x, hx⟩ : ∃ x : Nat, x = 288 := ⟨_, rfl⟩
    have e : 2 ^ x = R * K := (show ∀ y z, x = y + z → 2 ^ x = 2 ^ y * 2 ^ z from fun y z h => by rw [h, Nat.pow_add]) 160 128 (by omega)
    have := fix_Times n (nrootY n 5) x hnM hyM (by omega) (by rw [e]; exact hG)
    rw [e, show (x : Int) = 288 by omega] at this
    exact this
  clear he hr hc h1 h2 hnM hG hyM
  generalize nrootG n = g at *
  generalize nrootY n 5 = y at *
  generalize romF = cf at *
  go_enter Tryz.func243, Tryz.ntmps243
  go_wp2_with ((first | (refine kb 3 hst rfl rfl ?_; clear hst; intro b3 w hb3 hst) | (refine ka 4 hst tz44 rfl rfl ?_; clear hst; intro b4 w hb4 hst)); try simp only [pz, pn, sz, sc])
  refine wp_region_TV 6 [(b3, .cells (wc 8 n) 44)] hst (by kernel_rfl) ?_; clear hst; intro w hst; (try simp only [List.length_cons, List.length_nil, Nat.reduceAdd, Array.replicate_succ, Array.replicate_zero, List.push_toArray, List.nil_append, List.cons_append])
  refine r0 1 ?_; simp only [pz, pn, sz, sc]
  refine rl 0 rfl ?_ (by first | exact ylA ta44 | exact ylM ta44); simp only [pz, pn, sz, sc]
  refine rl 2 rfl ?_ (by first | exact ylA ta44 | exact ylM ta44); simp only [pz, pn, sz, sc]
  refine r1 3 ?_; (refine kT gf247 hst (fun w hst => hrec w (hst.own _ _ (by repeat (first | exact List.Mem.head _ | refine List.Mem.tail _ ?_))) (hst.own _ _ (by repeat (first | exact List.Mem.head _ | refine List.Mem.tail _ ?_)))) rfl rfl rfl rfl ?_; clear hst; intro w hst); (try simp only [pz, pn, sz, sc]); refine re ?_
  refine r1 4 ?_; (refine kf gf246 hst (ht) rfl rfl rfl rfl ?_; clear hst; intro w hst); (try simp only [pz, pn, sz, sc]); refine re ?_
  refine r1 5 ?_; (refine kt hst ta44 rfl rfl ?_; clear hst; intro w hst); (try simp only [pz, pn, sz, sc]); refine re ?_
  refine rd_ ?_
  go_wp2_with fail
  first | exact bp_c rfl rfl (la hst ta44) (GivesT.of hst rfl (by simp)) | exact bp_c rfl rfl (la hst ta44) ⟨rfl, hst.keeps, hst.own _ _ (by simp)⟩

theorem nroot_may (be : Nat) (n : Nat) (hn : n < M) : Gives Tryz.prog 244 #[.pointer (some ⟨be, 0, none⟩), W n] (.int .i64 (if n < 2 ^ 256 then 0 else 4)) := by
  intro w0
  have hst := St.start [] w0
  have hl := wide_Len n hn
  have hb := @bl_le n 256
  generalize bl n = k at *
  by_cases h : n < 2 ^ 256
  · rw [if_pos h]
    have hk : ¬ ((256 : Int) < (k : Int)) := by have := hb.2 h; omega
    clear hb h
    go_enter Tryz.func244, Tryz.ntmps244
    go_wp2_with ((first | (refine kf gf47 hst (hl) rfl rfl rfl rfl ?_; clear hst; intro w hst) | (refine kb 3 hst rfl rfl ?_; clear hst; intro b3 w hb3 hst) | (refine kl hst ta44 rfl ?_)); try simp only [pz, pn, sz, sc])
    refine bp_t rfl rfl (by rfl) ⟨?_, hst.keeps⟩
    rfl
  · rw [if_neg h]
    have hk : ((256 : Int) < (k : Int)) := by
      rcases Nat.lt_or_ge 256 k with h' | h'
      · omega
      · exact absurd (hb.1 h') h
    clear hb h
    go_enter Tryz.func244, Tryz.ntmps244
    go_wp2_with ((first | (refine kf gf47 hst (hl) rfl rfl rfl rfl ?_; clear hst; intro w hst) | (refine kb 3 hst rfl rfl ?_; clear hst; intro b3 w hb3 hst) | (refine kl hst ta44 rfl ?_)); try simp only [pz, pn, sz, sc])
    refine bp_t rfl rfl (by rfl) ⟨?_, hst.keeps⟩
    rfl

/-- The rom behind a root: made where there is something to find. -/
def romTo (n : Nat) (c : Array Value) : Array Value := if n = 0 ∨ ¬ n < 2 ^ 256 then c else romF
theorem romTo_ok {n : Nat} {c : Array Value} (h : RomOk c) : RomOk (romTo n c) := by unfold romTo; split; exact h; exact Or.inr rfl
theorem romTo_zero (c : Array Value) : romTo 0 c = c := if_pos (.inl rfl)
theorem romTo_big {n : Nat} (c : Array Value) (h : ¬ n < 2 ^ 256) : romTo n c = c := if_pos (.inr h)
theorem romTo_made {n : Nat} (c : Array Value) (h0 : n ≠ 0) (h : n < 2 ^ 256) : romTo n c = romF := if_neg (by rintro (h' | h'); exact h0 h'; exact h' h)

theorem own_one {w : World} {x : Nat} {y : Obj} (h : w.heap[x]? = some y) : ∀ b o, (b, o) ∈ [(x, y)] → w.heap[b]? = some o := fun b o hm => by
  simp only [List.mem_singleton, Prod.mk.injEq] at hm
  obtain ⟨rfl, rfl⟩ := hm
  exact h

set_option maxHeartbeats 8000000 in
theorem nroot_Root (be br : Nat) (c : Array Value) (hc : RomOk c) (hne : be ≠ br) (n : Nat) (hn : n < M) (w0 : World) (he : w0.heap[be]? = some (.cells #[.pointer (some ⟨br, 0, none⟩)] 206)) (hr : w0.heap[br]? = some (.cells c 121)) :
    GivesT Tryz.prog 242 #[.pointer (some ⟨be, 0, none⟩), W n] (rootV n) [(br, .cells c 121)] [(br, .cells (romTo n c) 121)] w0 := by
  have hst := St.eng hne he hr
  have hlt := lt_of_some he
  have hltr := lt_of_some hr
  have hmay := nroot_may be n hn
  unfold rootV
  by_cases h0 : n = 0
  · subst h0
    rw [romTo_zero]
    have hnorm := srtroot_Norm_zero
    have e0 : isqrt 0 = 0 := (isqrt_of (by decide) ⟨by decide, by decide⟩).symm
    rw [if_pos (show 0 < 2 ^ 256 by decide), e0]
    rw [if_pos (show 0 < 2 ^ 256 by decide)] at hmay
    clear hc he hr
    go_enter Tryz.func242, Tryz.ntmps242
    go_wp2_with ((first | (refine kf gf244 hst (hmay) rfl rfl rfl rfl ?_; clear hst; intro w hst) | (refine kf gf225 hst (hnorm) rfl rfl rfl rfl ?_; clear hst; intro w hst) | (refine kb 3 hst rfl rfl ?_; clear hst; intro b3 w hb3 hst) | (refine ka 4 hst tz44 rfl rfl ?_; clear hst; intro b4 w hb4 hst) | (refine ka 5 hst tz44 rfl rfl ?_; clear hst; intro b5 w hb5 hst) | (refine kl hst ta44 rfl ?_) | (refine ka 8 hst tz44 rfl rfl ?_; clear hst; intro b8 w hb8 hst) | (refine kt hst ta44 rfl rfl ?_; clear hst; intro w hst)); try simp only [pz, pn, sz, sc])
    refine bp_cct rfl rfl (la hst ta44) (la hst ta44) (by rfl) ⟨?_, hst.keeps, own_one (hst.own _ _ (by simp))⟩
    rw [W_zero]; rfl
  · by_cases h : n < 2 ^ 256
    · rw [romTo_made c h0 h, if_pos h]
      rw [if_pos h] at hmay
      have hnorm := srtroot_Norm n h0 h hn
      obtain ⟨u1, u2⟩ := norm_up n h0 h
      have hgue := fun (w : World) (q : w.heap[be]? = some (.cells #[.pointer (some ⟨br, 0, none⟩)] 206)) (h : w.heap[br]? = some (.cells c 121)) => newtonroot_guess be br c hc hne _ u1 u2 w q h
      obtain ⟨g1, g2⟩ := nrootG_near _ u1 u2
      have hfix := fix_Root (n * 2 ^ nby n) (nrootG (n * 2 ^ nby n)) 4 u2 g1 g2 (by omega) (by omega)
      have hsp := isqrt_spec (n := n * 2 ^ nby n) (by rw [four_128]; exact u2)
      have hs := @isqrt_up n _ h hsp.1
      obtain ⟨q1, q2, q3⟩ := sqrt_le h
      have hsq := prod_Square (isqrt n) q3
      rw [Nat.mod_eq_of_lt q2] at hsq
      have hsub := wide_Sub n (isqrt n * isqrt n) hn q2
      rw [sub_sq h] at hsub
      have hx : (nby n : Int).tdiv 2 = ((nby n / 2 : Nat) : Int) := by rw [Int.tdiv_eq_ediv_of_nonneg (by omega)]; omega
      have hx' : (nby n : Int) / 2 = ((nby n / 2 : Nat) : Int) := by omega
      have hxl : nby n / 2 ≤ 128 := by unfold nby; omega
      have hshr := wide_Shr (isqrt (n * 2 ^ nby n)) ((nby n / 2 : Nat) : Int) (Nat.lt_trans hsp.2 (small_M (by decide)))
      rw [clampN_nat _ (by omega), hs] at hshr
      clear hsp hs u1 u2 g1 g2 q1 q2 q3 h h0 hc he hr
      generalize off (nrootG (n * 2 ^ nby n)) (isqrt (n * 2 ^ nby n)) = d at *
      generalize nrootG (n * 2 ^ nby n) = g at *
      generalize n * 2 ^ nby n - isqrt (n * 2 ^ nby n) * isqrt (n * 2 ^ nby n) = ru at *
      generalize isqrt (n * 2 ^ nby n) = su at *
      generalize n - isqrt n * isqrt n = rv at *
      generalize isqrt n * isqrt n = sv at *
      generalize isqrt n = s at *
      generalize nby n / 2 = x at *
      generalize n * 2 ^ nby n = up at *
      generalize romF = cf at *
      go_enter Tryz.func242, Tryz.ntmps242
      go_wp2_with ((first | (refine kf gf244 hst (hmay) rfl rfl rfl rfl ?_; clear hst; intro w hst) | (refine kf gf225 hst (hnorm) rfl rfl rfl rfl ?_; clear hst; intro w hst) | (refine kb 3 hst rfl rfl ?_; clear hst; intro b3 w hb3 hst) | (refine ka 4 hst tz44 rfl rfl ?_; clear hst; intro b4 w hb4 hst) | (refine ka 5 hst tz44 rfl rfl ?_; clear hst; intro b5 w hb5 hst) | (refine kl hst ta44 rfl ?_) | (refine ka 8 hst tz44 rfl rfl ?_; clear hst; intro b8 w hb8 hst) | (refine kt hst ta44 rfl rfl ?_; clear hst; intro w hst)); try simp only [pz, pn, sz, sc])
      refine wp_region_TV 16 [(b8, .cells (wc 8 up) 44)] hst (by kernel_rfl) ?_; clear hst; intro w hst; (try simp only [List.length_cons, List.length_nil, Nat.reduceAdd, Array.replicate_succ, Array.replicate_zero, List.push_toArray, List.nil_append, List.cons_append])
      refine r0 1 ?_; simp only [pz, pn, sz, sc]
      refine rl 0 rfl ?_ (by first | exact ylA ta44 | exact ylM ta44); simp only [pz, pn, sz, sc]
      refine rl 2 rfl ?_ (by first | exact ylA ta44 | exact ylM ta44); simp only [pz, pn, sz, sc]
      refine r3 3 10 11 ?_ ?_ ?_
      (refine kT gf243 hst (fun w hst => hgue w (hst.own _ _ (by repeat (first | exact List.Mem.head _ | refine List.Mem.tail _ ?_))) (hst.own _ _ (by repeat (first | exact List.Mem.head _ | refine List.Mem.tail _ ?_)))) rfl rfl rfl rfl ?_; clear hst; intro w hst); (try simp only [pz, pn, sz, sc]); refine re ?_
      refine r3 4 10 11 ?_ ?_ ?_
      (refine kf gf245 hst (hfix) rfl rfl rfl rfl ?_; clear hst; intro w hst); (try simp only [pz, pn, sz, sc]); refine re ?_
      refine r0 5 ?_; simp only [pz, pn, sz, sc]
      refine r0 6 ?_; simp only [pz, pn, sz, sc]
      refine r0 7 ?_; simp only [pz, pn, sz, sc]
      refine r0 8 ?_; simp only [pz, pn, sz, sc]
      refine r0 9 ?_; simp only [pz, pn, sz, sc]
      refine r2 10 11 ?_ ?_
      (refine ka 11 hst tz44 rfl rfl ?_; clear hst; intro b11 w hb11 hst); (try simp only [pz, pn, sz, sc]); refine re ?_
      refine r1 11 ?_; (refine ka 12 hst tz44 rfl rfl ?_; clear hst; intro b12 w hb12 hst); (try simp only [pz, pn, sz, sc]); refine re ?_
      refine r1 12 ?_; (refine kt hst ta44 rfl rfl ?_; clear hst; intro w hst); (try simp only [pz, pn, sz, sc]); refine re ?_
      refine r1 13 ?_; (refine kt hst ta44 rfl rfl ?_; clear hst; intro w hst); (try simp only [pz, pn, sz, sc]); refine re ?_
      refine r0 14 ?_; simp only [pz, pn, sz, sc]
      refine r0 15 ?_; simp only [pz, pn, sz, sc]
      refine rd_ ?_
      rotate_left 1
      (refine ka 12 hst tz44 rfl rfl ?_; clear hst; intro b12 w hb12 hst); (try simp only [pz, pn, sz, sc]); refine re ?_
      refine r1 10 ?_; (refine ka 11 hst tz44 rfl rfl ?_; clear hst; intro b11 w hb11 hst); (try simp only [pz, pn, sz, sc]); refine re ?_
      refine r1 12 ?_; (refine kt hst ta44 rfl rfl ?_; clear hst; intro w hst); (try simp only [pz, pn, sz, sc]); refine re ?_
      refine r1 13 ?_; (refine kt hst ta44 rfl rfl ?_; clear hst; intro w hst); (try simp only [pz, pn, sz, sc]); refine re ?_
      refine r0 14 ?_; simp only [pz, pn, sz, sc]
      refine r0 15 ?_; simp only [pz, pn, sz, sc]
      refine rd_ ?_
      rotate_right 1
      rotate_left 2
      (refine ka 11 hst tz44 rfl rfl ?_; clear hst; intro b11 w hb11 hst); (try simp only [pz, pn, sz, sc]); refine re ?_
      refine r2 4 11 ?_ ?_
      (refine kf gf245 hst (hfix) rfl rfl rfl rfl ?_; clear hst; intro w hst); (try simp only [pz, pn, sz, sc]); refine re ?_
      refine r0 5 ?_; simp only [pz, pn, sz, sc]
      refine r0 6 ?_; simp only [pz, pn, sz, sc]
      refine r0 7 ?_; simp only [pz, pn, sz, sc]
      refine r0 8 ?_; simp only [pz, pn, sz, sc]
      refine r0 9 ?_; simp only [pz, pn, sz, sc]
      refine r1 11 ?_; (refine ka 12 hst tz44 rfl rfl ?_; clear hst; intro b12 w hb12 hst); (try simp only [pz, pn, sz, sc]); refine re ?_
      refine r1 12 ?_; (refine kt hst ta44 rfl rfl ?_; clear hst; intro w hst); (try simp only [pz, pn, sz, sc]); refine re ?_
      refine r1 13 ?_; (refine kt hst ta44 rfl rfl ?_; clear hst; intro w hst); (try simp only [pz, pn, sz, sc]); refine re ?_
      refine r0 14 ?_; simp only [pz, pn, sz, sc]
      refine r0 15 ?_; simp only [pz, pn, sz, sc]
      refine rd_ ?_
      rotate_left 1
      (refine ka 12 hst tz44 rfl rfl ?_; clear hst; intro b12 w hb12 hst); (try simp only [pz, pn, sz, sc]); refine re ?_
      refine r1 4 ?_; (refine kf gf245 hst (hfix) rfl rfl rfl rfl ?_; clear hst; intro w hst); (try simp only [pz, pn, sz, sc]); refine re ?_
      refine r0 5 ?_; simp only [pz, pn, sz, sc]
      refine r0 6 ?_; simp only [pz, pn, sz, sc]
      refine r0 7 ?_; simp only [pz, pn, sz, sc]
      refine r0 8 ?_; simp only [pz, pn, sz, sc]
      refine r0 9 ?_; simp only [pz, pn, sz, sc]
      refine r1 12 ?_; (refine kt hst ta44 rfl rfl ?_; clear hst; intro w hst); (try simp only [pz, pn, sz, sc]); refine re ?_
      refine r1 13 ?_; (refine kt hst ta44 rfl rfl ?_; clear hst; intro w hst); (try simp only [pz, pn, sz, sc]); refine re ?_
      refine r0 14 ?_; simp only [pz, pn, sz, sc]
      refine r0 15 ?_; simp only [pz, pn, sz, sc]
      refine rd_ ?_
      rotate_right 1
      rotate_left 2
      (refine ka 12 hst tz44 rfl rfl ?_; clear hst; intro b12 w hb12 hst); (try simp only [pz, pn, sz, sc]); refine re ?_
      refine r2 4 10 ?_ ?_
      (refine kf gf245 hst (hfix) rfl rfl rfl rfl ?_; clear hst; intro w hst); (try simp only [pz, pn, sz, sc]); refine re ?_
      refine r0 5 ?_; simp only [pz, pn, sz, sc]
      refine r0 6 ?_; simp only [pz, pn, sz, sc]
      refine r0 7 ?_; simp only [pz, pn, sz, sc]
      refine r0 8 ?_; simp only [pz, pn, sz, sc]
      refine r0 9 ?_; simp only [pz, pn, sz, sc]
      refine r1 10 ?_; (refine ka 11 hst tz44 rfl rfl ?_; clear hst; intro b11 w hb11 hst); (try simp only [pz, pn, sz, sc]); refine re ?_
      refine r1 12 ?_; (refine kt hst ta44 rfl rfl ?_; clear hst; intro w hst); (try simp only [pz, pn, sz, sc]); refine re ?_
      refine r1 13 ?_; (refine kt hst ta44 rfl rfl ?_; clear hst; intro w hst); (try simp only [pz, pn, sz, sc]); refine re ?_
      refine r0 14 ?_; simp only [pz, pn, sz, sc]
      refine r0 15 ?_; simp only [pz, pn, sz, sc]
      refine rd_ ?_
      rotate_left 1
      (refine ka 11 hst tz44 rfl rfl ?_; clear hst; intro b11 w hb11 hst); (try simp only [pz, pn, sz, sc]); refine re ?_
      refine r1 4 ?_; (refine kf gf245 hst (hfix) rfl rfl rfl rfl ?_; clear hst; intro w hst); (try simp only [pz, pn, sz, sc]); refine re ?_
      refine r0 5 ?_; simp only [pz, pn, sz, sc]
      refine r0 6 ?_; simp only [pz, pn, sz, sc]
      refine r0 7 ?_; simp only [pz, pn, sz, sc]
      refine r0 8 ?_; simp only [pz, pn, sz, sc]
      refine r0 9 ?_; simp only [pz, pn, sz, sc]
      refine r1 12 ?_; (refine kt hst ta44 rfl rfl ?_; clear hst; intro w hst); (try simp only [pz, pn, sz, sc]); refine re ?_
      refine r1 13 ?_; (refine kt hst ta44 rfl rfl ?_; clear hst; intro w hst); (try simp only [pz, pn, sz, sc]); refine re ?_
      refine r0 14 ?_; simp only [pz, pn, sz, sc]
      refine r0 15 ?_; simp only [pz, pn, sz, sc]
      refine rd_ ?_
      rotate_right 1
      rotate_right 4
      rotate_left 6
      (refine ka 11 hst tz44 rfl rfl ?_; clear hst; intro b11 w hb11 hst); (try simp only [pz, pn, sz, sc]); refine re ?_
      refine r2 3 11 ?_ ?_
      (refine kT gf243 hst (fun w hst => hgue w (hst.own _ _ (by repeat (first | exact List.Mem.head _ | refine List.Mem.tail _ ?_))) (hst.own _ _ (by repeat (first | exact List.Mem.head _ | refine List.Mem.tail _ ?_)))) rfl rfl rfl rfl ?_; clear hst; intro w hst); (try simp only [pz, pn, sz, sc]); refine re ?_
      refine r2 4 11 ?_ ?_
      (refine kf gf245 hst (hfix) rfl rfl rfl rfl ?_; clear hst; intro w hst); (try simp only [pz, pn, sz, sc]); refine re ?_
      refine r0 5 ?_; simp only [pz, pn, sz, sc]
      refine r0 6 ?_; simp only [pz, pn, sz, sc]
      refine r0 7 ?_; simp only [pz, pn, sz, sc]
      refine r0 8 ?_; simp only [pz, pn, sz, sc]
      refine r0 9 ?_; simp only [pz, pn, sz, sc]
      refine r1 11 ?_; (refine ka 12 hst tz44 rfl rfl ?_; clear hst; intro b12 w hb12 hst); (try simp only [pz, pn, sz, sc]); refine re ?_
      refine r1 12 ?_; (refine kt hst ta44 rfl rfl ?_; clear hst; intro w hst); (try simp only [pz, pn, sz, sc]); refine re ?_
      refine r1 13 ?_; (refine kt hst ta44 rfl rfl ?_; clear hst; intro w hst); (try simp only [pz, pn, sz, sc]); refine re ?_
      refine r0 14 ?_; simp only [pz, pn, sz, sc]
      refine r0 15 ?_; simp only [pz, pn, sz, sc]
      refine rd_ ?_
      rotate_left 1
      (refine ka 12 hst tz44 rfl rfl ?_; clear hst; intro b12 w hb12 hst); (try simp only [pz, pn, sz, sc]); refine re ?_
      refine r1 4 ?_; (refine kf gf245 hst (hfix) rfl rfl rfl rfl ?_; clear hst; intro w hst); (try simp only [pz, pn, sz, sc]); refine re ?_
      refine r0 5 ?_; simp only [pz, pn, sz, sc]
      refine r0 6 ?_; simp only [pz, pn, sz, sc]
      refine r0 7 ?_; simp only [pz, pn, sz, sc]
      refine r0 8 ?_; simp only [pz, pn, sz, sc]
      refine r0 9 ?_; simp only [pz, pn, sz, sc]
      refine r1 12 ?_; (refine kt hst ta44 rfl rfl ?_; clear hst; intro w hst); (try simp only [pz, pn, sz, sc]); refine re ?_
      refine r1 13 ?_; (refine kt hst ta44 rfl rfl ?_; clear hst; intro w hst); (try simp only [pz, pn, sz, sc]); refine re ?_
      refine r0 14 ?_; simp only [pz, pn, sz, sc]
      refine r0 15 ?_; simp only [pz, pn, sz, sc]
      refine rd_ ?_
      rotate_right 1
      rotate_left 2
      (refine ka 12 hst tz44 rfl rfl ?_; clear hst; intro b12 w hb12 hst); (try simp only [pz, pn, sz, sc]); refine re ?_
      refine r1 3 ?_; (refine kT gf243 hst (fun w hst => hgue w (hst.own _ _ (by repeat (first | exact List.Mem.head _ | refine List.Mem.tail _ ?_))) (hst.own _ _ (by repeat (first | exact List.Mem.head _ | refine List.Mem.tail _ ?_)))) rfl rfl rfl rfl ?_; clear hst; intro w hst); (try simp only [pz, pn, sz, sc]); refine re ?_
      refine r1 4 ?_; (refine kf gf245 hst (hfix) rfl rfl rfl rfl ?_; clear hst; intro w hst); (try simp only [pz, pn, sz, sc]); refine re ?_
      refine r0 5 ?_; simp only [pz, pn, sz, sc]
      refine r0 6 ?_; simp only [pz, pn, sz, sc]
      refine r0 7 ?_; simp only [pz, pn, sz, sc]
      refine r0 8 ?_; simp only [pz, pn, sz, sc]
      refine r0 9 ?_; simp only [pz, pn, sz, sc]
      refine r1 12 ?_; (refine kt hst ta44 rfl rfl ?_; clear hst; intro w hst); (try simp only [pz, pn, sz, sc]); refine re ?_
      refine r1 13 ?_; (refine kt hst ta44 rfl rfl ?_; clear hst; intro w hst); (try simp only [pz, pn, sz, sc]); refine re ?_
      refine r0 14 ?_; simp only [pz, pn, sz, sc]
      refine r0 15 ?_; simp only [pz, pn, sz, sc]
      refine rd_ ?_
      rotate_right 2
      rotate_left 3
      (refine ka 12 hst tz44 rfl rfl ?_; clear hst; intro b12 w hb12 hst); (try simp only [pz, pn, sz, sc]); refine re ?_
      refine r2 3 10 ?_ ?_
      (refine kT gf243 hst (fun w hst => hgue w (hst.own _ _ (by repeat (first | exact List.Mem.head _ | refine List.Mem.tail _ ?_))) (hst.own _ _ (by repeat (first | exact List.Mem.head _ | refine List.Mem.tail _ ?_)))) rfl rfl rfl rfl ?_; clear hst; intro w hst); (try simp only [pz, pn, sz, sc]); refine re ?_
      refine r2 4 10 ?_ ?_
      (refine kf gf245 hst (hfix) rfl rfl rfl rfl ?_; clear hst; intro w hst); (try simp only [pz, pn, sz, sc]); refine re ?_
      refine r0 5 ?_; simp only [pz, pn, sz, sc]
      refine r0 6 ?_; simp only [pz, pn, sz, sc]
      refine r0 7 ?_; simp only [pz, pn, sz, sc]
      refine r0 8 ?_; simp only [pz, pn, sz, sc]
      refine r0 9 ?_; simp only [pz, pn, sz, sc]
      refine r1 10 ?_; (refine ka 11 hst tz44 rfl rfl ?_; clear hst; intro b11 w hb11 hst); (try simp only [pz, pn, sz, sc]); refine re ?_
      refine r1 12 ?_; (refine kt hst ta44 rfl rfl ?_; clear hst; intro w hst); (try simp only [pz, pn, sz, sc]); refine re ?_
      refine r1 13 ?_; (refine kt hst ta44 rfl rfl ?_; clear hst; intro w hst); (try simp only [pz, pn, sz, sc]); refine re ?_
      refine r0 14 ?_; simp only [pz, pn, sz, sc]
      refine r0 15 ?_; simp only [pz, pn, sz, sc]
      refine rd_ ?_
      rotate_left 1
      (refine ka 11 hst tz44 rfl rfl ?_; clear hst; intro b11 w hb11 hst); (try simp only [pz, pn, sz, sc]); refine re ?_
      refine r1 4 ?_; (refine kf gf245 hst (hfix) rfl rfl rfl rfl ?_; clear hst; intro w hst); (try simp only [pz, pn, sz, sc]); refine re ?_
      refine r0 5 ?_; simp only [pz, pn, sz, sc]
      refine r0 6 ?_; simp only [pz, pn, sz, sc]
      refine r0 7 ?_; simp only [pz, pn, sz, sc]
      refine r0 8 ?_; simp only [pz, pn, sz, sc]
      refine r0 9 ?_; simp only [pz, pn, sz, sc]
      refine r1 12 ?_; (refine kt hst ta44 rfl rfl ?_; clear hst; intro w hst); (try simp only [pz, pn, sz, sc]); refine re ?_
      refine r1 13 ?_; (refine kt hst ta44 rfl rfl ?_; clear hst; intro w hst); (try simp only [pz, pn, sz, sc]); refine re ?_
      refine r0 14 ?_; simp only [pz, pn, sz, sc]
      refine r0 15 ?_; simp only [pz, pn, sz, sc]
      refine rd_ ?_
      rotate_right 1
      rotate_left 2
      (refine ka 11 hst tz44 rfl rfl ?_; clear hst; intro b11 w hb11 hst); (try simp only [pz, pn, sz, sc]); refine re ?_
      refine r1 3 ?_; (refine kT gf243 hst (fun w hst => hgue w (hst.own _ _ (by repeat (first | exact List.Mem.head _ | refine List.Mem.tail _ ?_))) (hst.own _ _ (by repeat (first | exact List.Mem.head _ | refine List.Mem.tail _ ?_)))) rfl rfl rfl rfl ?_; clear hst; intro w hst); (try simp only [pz, pn, sz, sc]); refine re ?_
      refine r1 4 ?_; (refine kf gf245 hst (hfix) rfl rfl rfl rfl ?_; clear hst; intro w hst); (try simp only [pz, pn, sz, sc]); refine re ?_
      refine r0 5 ?_; simp only [pz, pn, sz, sc]
      refine r0 6 ?_; simp only [pz, pn, sz, sc]
      refine r0 7 ?_; simp only [pz, pn, sz, sc]
      refine r0 8 ?_; simp only [pz, pn, sz, sc]
      refine r0 9 ?_; simp only [pz, pn, sz, sc]
      refine r1 12 ?_; (refine kt hst ta44 rfl rfl ?_; clear hst; intro w hst); (try simp only [pz, pn, sz, sc]); refine re ?_
      refine r1 13 ?_; (refine kt hst ta44 rfl rfl ?_; clear hst; intro w hst); (try simp only [pz, pn, sz, sc]); refine re ?_
      refine r0 14 ?_; simp only [pz, pn, sz, sc]
      refine r0 15 ?_; simp only [pz, pn, sz, sc]
      refine rd_ ?_
      rotate_right 2
      rotate_right 9
      all_goals
        go_wp2_with ((first | (refine kf gf87 hst (hshr) rfl rfl rfl rfl ?_; clear hst; intro w hst) | (refine kf gf71 hst (hsq) rfl rfl rfl rfl ?_; clear hst; intro w hst) | (refine kf gf122 hst (hsub) rfl rfl rfl rfl ?_; clear hst; intro w hst) | (refine kl hst ta44 rfl ?_) | (refine kt hst ta44 rfl rfl ?_; clear hst; intro w hst) | (refine ka 14 hst tz44 rfl rfl ?_; clear hst; intro b14 w hb14 hst) | (refine ka 16 hst tz44 rfl rfl ?_; clear hst; intro b16 w hb16 hst)); try simp only [pz, pn, sz, sc])
        refine wp_region_TV 6 [(b16, .cells (wc 8 rv) 44), (b11, .cells (wc 8 s) 44)] hst (by kernel_rfl) ?_; clear hst; intro w hst; (try simp only [List.length_cons, List.length_nil, Nat.reduceAdd, Array.replicate_succ, Array.replicate_zero, List.push_toArray, List.nil_append, List.cons_append])
        refine r0 2 ?_; simp only [pz, pn, sz, sc]
        refine rl 0 rfl ?_ (by first | exact ylA ta44 | exact ylM ta44); simp only [pz, pn, sz, sc]
        refine rl 1 rfl ?_ (by first | exact ylA ta44 | exact ylM ta44); simp only [pz, pn, sz, sc]
        refine r1 3 ?_; (refine kt hst ta44 rfl rfl ?_; clear hst; intro w hst); (try simp only [pz, pn, sz, sc]); refine re ?_
        refine r1 4 ?_; (refine kt hst ta44 rfl rfl ?_; clear hst; intro w hst); (try simp only [pz, pn, sz, sc]); refine re ?_
        refine r0 5 ?_; simp only [pz, pn, sz, sc]
        refine rd_ ?_
        go_wp2_with fail
        refine bp_cct rfl rfl (la hst ta44) (la hst ta44) (by rfl) ⟨?_, hst.keeps, own_one (hst.own _ _ (by simp))⟩
        rfl
    · rw [romTo_big c h, if_neg h]
      rw [if_neg h] at hmay
      have hnorm := srtroot_Norm_big n h hn
      clear h h0 hc he hr
      go_enter Tryz.func242, Tryz.ntmps242
      go_wp2_with ((first | (refine kf gf244 hst (hmay) rfl rfl rfl rfl ?_; clear hst; intro w hst) | (refine kf gf225 hst (hnorm) rfl rfl rfl rfl ?_; clear hst; intro w hst) | (refine kb 3 hst rfl rfl ?_; clear hst; intro b3 w hb3 hst) | (refine ka 4 hst tz44 rfl rfl ?_; clear hst; intro b4 w hb4 hst) | (refine ka 5 hst tz44 rfl rfl ?_; clear hst; intro b5 w hb5 hst) | (refine kl hst ta44 rfl ?_) | (refine ka 8 hst tz44 rfl rfl ?_; clear hst; intro b8 w hb8 hst) | (refine kt hst ta44 rfl rfl ?_; clear hst; intro w hst)); try simp only [pz, pn, sz, sc])
      refine bp_cct rfl rfl (la hst ta44) (la hst ta44) (by rfl) ⟨?_, hst.keeps, own_one (hst.own _ _ (by simp))⟩
      rw [W_zero]; rfl

end Go.Proofs.YtefpoconpeggpaaGreatDoor.Rd

namespace Go.Proofs.YtefpoconpeggpaaGreatDoor.Rd
set_option linter.unusedVariables false
set_option maxRecDepth 100000

/-- The identity behind a round: S = H R, R = 2 H. -/
theorem groot_ident (H R g h t r1 f g' r2 h' r3 S Dl : Int) (hR : R = 2 * H) (hS : S = H * R) (hD : Dl = S - g * h) (i1 : g * h = R * t + r1) (i2 : f + t = 3 * H) (i3 : g * f = R * g' + r2) (i4 : h * f = R * h' + r3) :
    4 * S * S * (S - g' * h') = 3 * S * (Dl * Dl) + Dl * Dl * Dl - (S - Dl) * ((4 * S + 2 * Dl) * r1 + r1 * r1) + 2 * S * (g * f * r3 + h * f * r2 - r2 * r3) := by
  have e1 : R * f = 2 * S + Dl + r1 := by
    have : R * f + R * t = R * (3 * H) := by rw [← Int.mul_add, i2]
    have e : R * (3 * H) = 3 * S := by rw [hS]; grind
    omega
  have e2 : R * R = 2 * S := by rw [hS, hR]; grind
  have e3 : (R * g') * (R * h') = g * h * (f * f) - (g * f * r3 + h * f * r2 - r2 * r3) := by
    have a : R * g' = g * f - r2 := by omega
    have b : R * h' = h * f - r3 := by omega
    rw [a, b]; grind
  have e4 : g * h = S - Dl := by omega
  have e5 : 4 * S * S * (g' * h') = 2 * S * ((R * g') * (R * h')) := by
    have : (R * g') * (R * h') = R * R * (g' * h') := by grind
    rw [this, e2]; grind
  have e6 : 2 * S * (g * h * (f * f)) = (S - Dl) * ((2 * S + Dl + r1) * (2 * S + Dl + r1)) := by
    rw [← e1, e4, ← e2]; grind
  rw [Int.mul_sub, e5, e3, Int.mul_sub, e6]
  grind

/-- The ratio drifts by little. -/
theorem groot_ratio (R A n g h f g' r2 h' r3 F : Int) (hF : F = A * g - n * h) (i3 : g * f = R * g' + r2) (i4 : h * f = R * h' + r3) : (A * g' - n * h') * R = F * f - A * r2 + n * r3 := by
  have a : R * g' = g * f - r2 := by omega
  have b : R * h' = h * f - r3 := by omega
  have : (A * g' - n * h') * R = A * (R * g') - n * (R * h') := by grind
  rw [this, a, b, hF]; grind

theorem sum3 {a b c : Int} {x y : Nat} (h1 : a.natAbs ≤ x) (h2 : b.natAbs ≤ x) (h3 : c.natAbs ≤ y) : (a + b - c).natAbs ≤ 2 * x + y := by omega
theorem sum2 {a b : Int} {x y : Nat} (h1 : a.natAbs ≤ x) (h2 : b.natAbs ≤ y) : (a + b).natAbs ≤ x + y := by omega
theorem sum_bound {a b c e : Int} {x y z u : Nat} (h1 : a.natAbs ≤ x) (h2 : b.natAbs ≤ y) (h3 : c.natAbs ≤ z) (h4 : e.natAbs ≤ u) : (3 * a + b - c + 2 * e).natAbs ≤ 3 * x + y + z + 2 * u := by omega

set_option maxHeartbeats 1000000 in
theorem groot_step (H R g h d d' : Nat) (hR : R = 2 * H) (hR2 : 2 ≤ R) (hd : d ≤ H) (hg : g ≤ 2 * R) (hh : h ≤ 2 * R) (hE : (((H * R : Nat) : Int) - ((g * h : Nat) : Int)).natAbs ≤ d * R) (ht : g * h / R ≤ 3 * H) (hd' : 2 * (d * d) + 12 * R ≤ d' * R) :
    (((H * R : Nat) : Int) - ((g * (3 * H - g * h / R) / R * (h * (3 * H - g * h / R) / R) : Nat) : Int)).natAbs ≤ d' * R := by
  have hR0 : 0 < R := by omega
  have h1 := Nat.div_add_mod (g * h) R
  have h2 := Nat.mod_lt (g * h) hR0
  generalize g * h / R = t at *
  generalize g * h % R = r1 at *
  obtain ⟨f, hf⟩ : ∃ f, f = 3 * H - t := ⟨_, rfl⟩
  rw [← hf]
  have h3 := Nat.div_add_mod (g * f) R
  have h4 := Nat.mod_lt (g * f) hR0
  have h5 := Nat.div_add_mod (h * f) R
  have h6 := Nat.mod_lt (h * f) hR0
  generalize g * f / R = g' at *
  generalize g * f % R = r2 at *
  generalize h * f / R = h' at *
  generalize h * f % R = r3 at *
  obtain ⟨S, hS⟩ : ∃ S, S = H * R := ⟨_, rfl⟩
  rw [← hS] at hE ⊢
  obtain ⟨Dl, hDl⟩ : ∃ Dl : Int, Dl = (S : Int) - g * h := ⟨_, rfl⟩
  have id := groot_ident H R g h t r1 f g' r2 h' r3 S Dl (by omega) (by exact_mod_cast hS) hDl (by exact_mod_cast h1.symm) (by omega) (by exact_mod_cast h3.symm) (by exact_mod_cast h5.symm)
  have bD : Dl.natAbs ≤ d * R := by rw [hDl]; exact_mod_cast hE
  have e2 : R * R = 2 * S := by rw [hS, hR]; grind
  have bS : d * R ≤ S := by rw [hS]; exact Nat.mul_le_mul_right _ hd
  have hfR : f ≤ 2 * R := by omega
  have p1 : (Dl * Dl).natAbs ≤ d * R * (d * R) := natAbs_mul_le bD bD
  have p2 : (Dl * Dl * Dl).natAbs ≤ d * R * (d * R) * S := natAbs_mul_le p1 (Nat.le_trans bD bS)
  have p3 : ((S : Int) * (Dl * Dl)).natAbs ≤ S * (d * R * (d * R)) := natAbs_mul_le (by omega) p1
  have q1 : ((4 * (S : Int) + 2 * Dl) * r1).natAbs ≤ 6 * S * R := natAbs_mul_le (by omega) (by omega)
  have q2 : ((r1 : Int) * r1).natAbs ≤ R * R := natAbs_mul_le (by omega) (by omega)
  have q3 : (((S : Int) - Dl) * ((4 * (S : Int) + 2 * Dl) * r1 + r1 * r1)).natAbs ≤ 2 * S * (6 * S * R + R * R) := natAbs_mul_le (by omega) (sum2 q1 q2)
  have g1 : ((g : Int) * f * r3).natAbs ≤ 2 * R * (2 * R) * R := natAbs_mul_le (natAbs_mul_le (by omega) (by omega)) (by omega)
  have g2 : ((h : Int) * f * r2).natAbs ≤ 2 * R * (2 * R) * R := natAbs_mul_le (natAbs_mul_le (by omega) (by omega)) (by omega)
  have g3 : ((r2 : Int) * r3).natAbs ≤ R * R := natAbs_mul_le (by omega) (by omega)
  have g4 : ((S : Int) * ((g : Int) * f * r3 + h * f * r2 - r2 * r3)).natAbs ≤ S * (2 * (2 * R * (2 * R) * R) + R * R) := natAbs_mul_le (by omega) (sum3 g1 g2 g3)
  obtain ⟨E', hE'⟩ : ∃ E' : Int, E' = (S : Int) - g' * h' := ⟨_, rfl⟩
  rw [← hE'] at id
  have tot : (4 * (S : Int) * S * E').natAbs ≤ 3 * (S * (d * R * (d * R))) + d * R * (d * R) * S + 2 * S * (6 * S * R + R * R) + 2 * (S * (2 * (2 * R * (2 * R) * R) + R * R)) := by
    rw [id]
    have e1 : 3 * (S : Int) * (Dl * Dl) = 3 * ((S : Int) * (Dl * Dl)) := by grind
    have e3 : 2 * (S : Int) * ((g : Int) * f * r3 + h * f * r2 - r2 * r3) = 2 * ((S : Int) * ((g : Int) * f * r3 + h * f * r2 - r2 * r3)) := by grind
    rw [e1, e3]
    exact sum_bound p3 p2 q3 g4
  have goal' : ((S : Int) - ((g' * h' : Nat) : Int)) = E' := by rw [hE']; push_cast; rfl
  rw [goal']
  have na : (4 * (S : Int) * S * E').natAbs = 4 * (S * S) * E'.natAbs := by
    rw [Int.natAbs_mul, show 4 * (S : Int) * S = ((4 * (S * S) : Nat) : Int) by push_cast; grind]; rfl
  rw [na] at tot
  have f1 : 3 * (S * (d * R * (d * R))) + d * R * (d * R) * S = 4 * (S * S) * (2 * (d * d)) := by
    have : d * R * (d * R) = d * d * (R * R) := by grind
    rw [this, e2]; grind
  have f2 : 2 * S * (6 * S * R + R * R) = 4 * (S * S) * (3 * R + 1) := by rw [e2]; grind
  have f3 : 2 * (S * (2 * (2 * R * (2 * R) * R) + R * R)) = 4 * (S * S) * (8 * R + 1) := by
    have : 2 * R * (2 * R) * R = 4 * (R * R) * R := by grind
    rw [this, e2]; grind
  have m : 4 * (S * S) * E'.natAbs ≤ 4 * (S * S) * (d' * R) := by
    refine Nat.le_trans tot ?_
    rw [f1, f2, f3, ← Nat.mul_add, ← Nat.mul_add]
    exact Nat.mul_le_mul_left _ (by omega)
  have hSp : 0 < S := by rw [hS]; exact Nat.mul_pos (by omega) hR0
  exact Nat.le_of_mul_le_mul_left m (by have := Nat.mul_pos hSp hSp; omega)

theorem groot_drift (R A Q n g h f e e' b : Nat) (hR : 0 < R) (hA : A ≤ Q) (hn : n ≤ Q) (hF : (((A * g : Nat) : Int) - ((n * h : Nat) : Int)).natAbs ≤ e * Q) (hf : f ≤ R + b) (he : e * (R + b) + R ≤ e' * R) :
    (((A * (g * f / R) : Nat) : Int) - ((n * (h * f / R) : Nat) : Int)).natAbs ≤ e' * Q := by
  have h3 := Nat.div_add_mod (g * f) R
  have h4 := Nat.mod_lt (g * f) hR
  have h5 := Nat.div_add_mod (h * f) R
  have h6 := Nat.mod_lt (h * f) hR
  generalize g * f / R = g' at *
  generalize g * f % R = r2 at *
  generalize h * f / R = h' at *
  generalize h * f % R = r3 at *
  obtain ⟨F, hFF⟩ : ∃ F : Int, F = (A : Int) * g - n * h := ⟨_, rfl⟩
  have key := groot_ratio R A n g h f g' r2 h' r3 F hFF (by exact_mod_cast h3.symm) (by exact_mod_cast h5.symm)
  have bF : F.natAbs ≤ e * Q := by rw [hFF]; exact_mod_cast hF
  obtain ⟨F', hF'⟩ : ∃ F' : Int, F' = (A : Int) * g' - n * h' := ⟨_, rfl⟩
  have goal' : ((A * g' : Nat) : Int) - ((n * h' : Nat) : Int) = F' := by rw [hF']; push_cast; rfl
  rw [goal']
  rw [← hF'] at key
  have b1 : A * r2 ≤ Q * R := Nat.mul_le_mul hA (Nat.le_of_lt h4)
  have b2 : n * r3 ≤ Q * R := Nat.mul_le_mul hn (Nat.le_of_lt h6)
  have b3 : (F * (f : Int)).natAbs ≤ e * Q * (R + b) := natAbs_mul_le bF (by omega)
  have n1 : F'.natAbs * R ≤ e * Q * (R + b) + Q * R := by
    have : (F' * (R : Int)).natAbs = F'.natAbs * R := by rw [Int.natAbs_mul]; rfl
    rw [← this, key]
    have c1 : ((A * r2 : Nat) : Int) = (A : Int) * (r2 : Int) := by push_cast; rfl
    have c2 : ((n * r3 : Nat) : Int) = (n : Int) * (r3 : Int) := by push_cast; rfl
    omega
  have n2 : F'.natAbs * R ≤ e' * Q * R := by
    have h := Nat.mul_le_mul_left Q he
    have e1 : Q * (e * (R + b) + R) = e * Q * (R + b) + Q * R := by grind
    have e2 : Q * (e' * R) = e' * Q * R := by grind
    omega
  exact Nat.le_of_mul_le_mul_right n2 hR

theorem groot_guess (A L R Q n g h s d e : Nat) (hA : 0 < A) (hL : 0 < L) (h1 : s * s ≤ n) (h2 : n < (s + 1) * (s + 1)) (hg : g ≤ 2 * R) (hE : (((A * (L * L) : Nat) : Int) - ((g * h : Nat) : Int)).natAbs ≤ d * R)
    (hF : (((A * g : Nat) : Int) - ((n * h : Nat) : Int)).natAbs ≤ e * Q) (hx : n * (d * R) + 2 * R * (e * Q) + A * (L * L) < 2 * s * (A * (L * L))) : g / L ≤ s + 1 ∧ s ≤ g / L + 1 := by
  have h3 := Nat.div_add_mod g L
  have h4 := Nat.mod_lt g hL
  generalize g / L = q at *
  generalize g % L = m at *
  obtain ⟨S, hS⟩ : ∃ S, S = A * (L * L) := ⟨_, rfl⟩
  obtain ⟨Dl, hDl⟩ : ∃ Dl : Int, Dl = (S : Int) - g * h := ⟨_, rfl⟩
  obtain ⟨F, hFF⟩ : ∃ F : Int, F = (A : Int) * g - n * h := ⟨_, rfl⟩
  have bD : Dl.natAbs ≤ d * R := by rw [hDl, hS]; exact_mod_cast hE
  have bF : F.natAbs ≤ e * Q := by rw [hFF]; exact_mod_cast hF
  have key : (A : Int) * (g * g) = n * S - n * Dl + g * F := by rw [hDl, hFF]; grind
  have k1 : ((n : Int) * Dl).natAbs ≤ n * (d * R) := natAbs_mul_le (by omega) bD
  have k2 : ((g : Int) * F).natAbs ≤ 2 * R * (e * Q) := natAbs_mul_le (by omega) bF
  have c1 : ((A * (g * g) : Nat) : Int) = (A : Int) * (g * g) := by push_cast; rfl
  have c2 : ((n * S : Nat) : Int) = (n : Int) * S := by push_cast; rfl
  have u1 : A * (g * g) ≤ n * S + (n * (d * R) + 2 * R * (e * Q)) := by omega
  have u2 : n * S ≤ A * (g * g) + (n * (d * R) + 2 * R * (e * Q)) := by omega
  have a1 : q * L ≤ g := by rw [Nat.mul_comm]; omega
  have a2 : g ≤ (q + 1) * L := by rw [Nat.add_mul, Nat.mul_comm q]; omega
  have b1 := Nat.mul_le_mul_left A (sq_le_of_le a1)
  have b2 := Nat.mul_le_mul_left A (sq_le_of_le a2)
  have e1 : A * (q * L * (q * L)) = q * q * S := by rw [hS]; grind
  have e2 : A * ((q + 1) * L * ((q + 1) * L)) = (q + 1) * (q + 1) * S := by rw [hS]; grind
  rw [← hS] at hx
  exact root_near n s q (n * (d * R) + 2 * R * (e * Q)) S (by rw [hS]; exact Nat.mul_pos hA (Nat.mul_pos hL hL)) h1 h2 (by omega) (by omega) hx

end Go.Proofs.YtefpoconpeggpaaGreatDoor.Rd
