/- What newtonroot's reciprocal, guess, may, Root answer. -/
import Derived.Test.YtggchelniblipaaGreatDoorJ16
namespace Go.Proofs.YtggchelniblipaaGreatDoor.Rd
open Go Go.RowKit
set_option linter.unusedVariables false
set_option linter.unusedSimpArgs false
set_option maxRecDepth 100000

section
variable {P : Program} {Q : Exit → Act → World → Prop} {md : Region.Mode} {V : World → Prop} {n : Nat} {a : Act} {w : World} {fuel : Nat} {listed : Array Bool} {l rs rs' rs2 : List Oper} {oi oj ok : Oper}
/-- Three may come up. -/
theorem r3 (i j k : Nat) (h : wpList P l.toArray (Exit.then (fun a' w' => ((listed.setIfInBounds i true).getD n false = true ∨ V w') ∧ anyT P md l.toArray Q n V fuel (listed.setIfInBounds i true) a' w') Q) [oi] a w)
    (h' : wpList P l.toArray (Exit.then (fun a' w' => ((listed.setIfInBounds j true).getD n false = true ∨ V w') ∧ anyT P md l.toArray Q n V fuel (listed.setIfInBounds j true) a' w') Q) [oj] a w)
    (h2 : wpList P l.toArray (Exit.then (fun a' w' => ((listed.setIfInBounds k true).getD n false = true ∨ V w') ∧ anyT P md l.toArray Q n V fuel (listed.setIfInBounds k true) a' w') Q) [ok] a w)
    (hi' : l.drop i = oi :: rs := by rfl) (hj' : l.drop j = oj :: rs' := by rfl) (hk' : l.drop k = ok :: rs2 := by rfl) (hr : Region.ready md l.toArray listed = [i, j, k] := by kernel_rfl) : anyT P md l.toArray Q n V (fuel + 1) listed a w := by
  refine ⟨fun h0 => absurd (hr ▸ h0) (by simp), fun x hx => ?_⟩
  rw [hr] at hx
  simp only [List.mem_cons, List.not_mem_nil, or_false] at hx
  rcases hx with rfl | rfl | rfl
  · exact wpOp_of_list (get_of_drop hi') h
  · exact wpOp_of_list (get_of_drop hj') h'
  · exact wpOp_of_list (get_of_drop hk') h2
end

/-- An engine's block, and its rom's. -/
theorem St.eng {be br : Nat} {c : Array Value} {o : Obj} {E : TypeId} {w0 : World} (hne : be ≠ br) (he : w0.heap[be]? = some o) (hr : w0.heap[br]? = some (.cells c E)) : St w0 [br] [(be, o), (br, .cells c E)] w0 :=
  ((St.start [br] w0).add hr (by simp)).add he (by simpa using hne)

set_option maxHeartbeats 8000000 in
theorem nroot_reciprocal (be br : Nat) (c : Array Value) (hc : RomOk c) (hne : be ≠ br) (n : Nat) (h1 : 2 ^ 254 ≤ n) (h2 : n < 2 ^ 256) (w0 : World) (he : w0.heap[be]? = some (.cells #[.pointer (some ⟨br, 0, none⟩)] 102)) (hr : w0.heap[br]? = some (.cells c 92)) :
    GivesT Tryz.prog 185 #[.pointer (some ⟨be, 0, none⟩), W n, .int .i64 5] (W (nrootY n 5)) [(br, .cells c 92)] [(br, .cells romF 92)] w0 := by
  have hst := St.eng hne he hr
  have hlt := lt_of_some he
  have hltr := lt_of_some hr
  have hseed := fun (w : World) (h : w.heap[br]? = some (.cells c 92)) => nroot_seed br c hc n h1 h2 w h
  have hbet := Lib.hid (fun m (hm : m ≤ 5) => nroot_better n m h1 h2 hm)
  clear he hr hc h1 h2
  generalize romF = cf at *
  go_enter Tryz.func185, Tryz.ntmps185
  go_wp2_with ((first | (refine kb 4 hst rfl rfl ?_; clear hst; intro b4 w hb4 hst) | (refine ka 6 hst tz24 rfl rfl ?_; clear hst; intro b6 w hb6 hst) | (refine kl hst ta100 rfl ?_) | (refine klm hst ta100 rfl ?_) | (refine kl hst ta24 rfl ?_) | (refine klm hst ta24 rfl ?_) | (refine ka 8 hst tz24 rfl rfl ?_; clear hst; intro b8 w hb8 hst) | (refine kt hst ta24 rfl rfl ?_; clear hst; intro w hst) | (refine ktm hst ta24 rfl rfl ?_; clear hst; intro w hst)); try simp only [pz, pn, sz, sc])
  refine wp_region_TV 8 [(b4, .cells (wc 8 n) 24), (be, .cells #[.pointer (some ⟨br, 0, none⟩)] 102)] hst (by kernel_rfl) ?_; clear hst; intro w hst; (try dsimp only [List.length_cons, List.length_nil]); (try simp only [List.length_cons, List.length_nil, Nat.reduceAdd, Array.replicate_succ, Array.replicate_zero, List.push_toArray, List.nil_append, List.cons_append])
  refine r0 0 ?_; simp only [pz, pn, sz, sc]
  refine r0 1 ?_; simp only [pz, pn, sz, sc]
  refine r0 2 ?_; simp only [pz, pn, sz, sc]
  refine rl 3 rfl ?_ (by first | exact ylA ta100 | exact ylM ta100); simp only [pz, pn, sz, sc]
  refine rl 4 rfl ?_ (by first | exact ylA ta24 | exact ylM ta24); simp only [pz, pn, sz, sc]
  refine r2 5 6 ?_ ?_
  (first | (refine kT gf191 hst (fun w hst => hseed w (hst.own _ _ (by repeat (first | exact List.Mem.head _ | refine List.Mem.tail _ ?_)))) rfl rfl rfl rfl ?_; clear hst; intro w hst) | (refine kp ?_)); (try simp only [pz, pn, sz, sc]); refine re ?_
  refine r1 6 ?_; (refine ka 8 hst tz24 rfl rfl ?_; clear hst; intro b8 w hb8 hst); (try simp only [pz, pn, sz, sc]); refine re ?_
  refine r1 7 ?_; (first | (refine kt hst ta24 rfl rfl ?_; clear hst; intro w hst) | (refine ktm hst ta24 rfl rfl ?_; clear hst; intro w hst)); (try simp only [pz, pn, sz, sc]); refine re ?_
  refine rd_ ?_
  rotate_left 1
  (refine ka 8 hst tz24 rfl rfl ?_; clear hst; intro b8 w hb8 hst); (try simp only [pz, pn, sz, sc]); refine re ?_
  refine r1 5 ?_; (first | (refine kT gf191 hst (fun w hst => hseed w (hst.own _ _ (by repeat (first | exact List.Mem.head _ | refine List.Mem.tail _ ?_)))) rfl rfl rfl rfl ?_; clear hst; intro w hst) | (refine kp ?_)); (try simp only [pz, pn, sz, sc]); refine re ?_
  refine r1 7 ?_; (first | (refine kt hst ta24 rfl rfl ?_; clear hst; intro w hst) | (refine ktm hst ta24 rfl rfl ?_; clear hst; intro w hst)); (try simp only [pz, pn, sz, sc]); refine re ?_
  refine rd_ ?_
  rotate_right 1
  all_goals
    go_wp2_with ((first | (refine kb 4 hst rfl rfl ?_; clear hst; intro b4 w hb4 hst) | (refine ka 6 hst tz24 rfl rfl ?_; clear hst; intro b6 w hb6 hst) | (refine kl hst ta100 rfl ?_) | (refine klm hst ta100 rfl ?_) | (refine kl hst ta24 rfl ?_) | (refine klm hst ta24 rfl ?_) | (refine ka 8 hst tz24 rfl rfl ?_; clear hst; intro b8 w hb8 hst) | (refine kt hst ta24 rfl rfl ?_; clear hst; intro w hst) | (refine ktm hst ta24 rfl rfl ?_; clear hst; intro w hst)); try simp only [pz, pn, sz, sc])
    clear hseed
    go_loopw [17] (fun i wr => ∃ k : Nat, k ≤ 5 ∧ i = .int .i64 k ∧ St w0 [br] [(b8, .cells (wc 8 (nrootY n k)) 24), (b6, .cells (wc 8 0) 24), (b4, .cells (wc 8 n) 24), (br, .cells cf 92)] wr) (fun i _ => 5 - (intOf i).toNat)
    case atStart => exact ⟨0, by omega, rfl, hst.sub (by repeat (first | exact List.Sublist.refl _ | exact List.nil_sublist _ | refine List.Sublist.cons_cons _ ?_ | refine List.Sublist.cons _ ?_))⟩
    case round =>
      clear hst
      obtain ⟨k, hk, rfl, hst⟩ := hrel
      by_cases hlt : k < 5
      · have hi5 : (k : Int) < 5 := by omega
        have hb := fun (w : World) (h : w.heap[b4]? = some (.cells (wc 8 n) 24)) => hbet.out k (by omega) b4 _ w h
        have hgf := gf189
        go_wp2_with ((first | (refine kg hgf hst (fun w hst => hb w (hst.own _ _ (by simp))) rfl rfl rfl rfl ?_; clear hst; intro w hst) | (refine kb 4 hst rfl rfl ?_; clear hst; intro b4 w hb4 hst) | (refine ka 6 hst tz24 rfl rfl ?_; clear hst; intro b6 w hb6 hst) | (refine kl hst ta100 rfl ?_) | (refine klm hst ta100 rfl ?_) | (refine kl hst ta24 rfl ?_) | (refine klm hst ta24 rfl ?_) | (refine ka 8 hst tz24 rfl rfl ?_; clear hst; intro b8 w hb8 hst) | (refine kt hst ta24 rfl rfl ?_; clear hst; intro w hst) | (refine ktm hst ta24 rfl rfl ?_; clear hst; intro w hst)); try simp only [pz, pn, sz, sc])
        go_roundw
        case rel => exact ⟨k + 1, by omega, by go_num, hst.sub (by repeat (first | exact List.Sublist.refl _ | exact List.nil_sublist _ | refine List.Sublist.cons_cons _ ?_ | refine List.Sublist.cons _ ?_))⟩
        case measure => simp [intOf]; omega
      · have : k = 5 := by omega
        subst this
        go_wp2_with ((first | (refine kb 4 hst rfl rfl ?_; clear hst; intro b4 w hb4 hst) | (refine ka 6 hst tz24 rfl rfl ?_; clear hst; intro b6 w hb6 hst) | (refine kl hst ta100 rfl ?_) | (refine klm hst ta100 rfl ?_) | (refine kl hst ta24 rfl ?_) | (refine klm hst ta24 rfl ?_) | (refine ka 8 hst tz24 rfl rfl ?_; clear hst; intro b8 w hb8 hst) | (refine kt hst ta24 rfl rfl ?_; clear hst; intro w hst) | (refine ktm hst ta24 rfl rfl ?_; clear hst; intro w hst)); try simp only [pz, pn, sz, sc])
        first | exact bp_c rfl rfl (la hst ta24) (GivesT.of hst rfl (by simp)) | exact bp_c rfl rfl (la hst ta24) ⟨rfl, hst.keeps, hst.own _ _ (by simp)⟩

/-- The guess for the root of what is shifted up. -/
def nrootG (u : Nat) : Nat := u * nrootY u 5 / (R * K)
theorem nrootG_near (u : Nat) (h1 : 2 ^ 254 ≤ u) (h2 : u < 2 ^ 256) : nrootG u ≤ isqrt u + 1 ∧ isqrt u ≤ nrootG u + 1 := by
  have hs := isqrt_spec (n := u) (by rw [four_128]; exact h2)
  exact nroot_last u (isqrt u) h1 (by rw [show K * K = 2 ^ 256 by decide]; exact h2) hs.1.1 hs.1.2

set_option maxHeartbeats 4000000 in
theorem newtonroot_guess (be br : Nat) (c : Array Value) (hc : RomOk c) (hne : be ≠ br) (n : Nat) (h1 : 2 ^ 254 ≤ n) (h2 : n < 2 ^ 256) (w0 : World) (he : w0.heap[be]? = some (.cells #[.pointer (some ⟨br, 0, none⟩)] 102)) (hr : w0.heap[br]? = some (.cells c 92)) :
    GivesT Tryz.prog 182 #[.pointer (some ⟨be, 0, none⟩), W n] (W (nrootG n)) [(br, .cells c 92)] [(br, .cells romF 92)] w0 := by
  have hst := St.eng hne he hr
  have hlt := lt_of_some he
  have hltr := lt_of_some hr
  have hrec := fun (w : World) (q : w.heap[be]? = some (.cells #[.pointer (some ⟨br, 0, none⟩)] 102)) (h : w.heap[br]? = some (.cells c 92)) => nroot_reciprocal be br c hc hne n h1 h2 w q h
  have hnM : n < M := small_M (by omega)
  have hG : n * nrootY n 5 / (R * K) < M := by
    have h3 := (nrootG_near n h1 h2).1
    have h4 := (isqrt_spec (n := n) (by rw [four_128]; exact h2)).2
    have h5 : nrootG n < 4 * 2 ^ 256 := by omega
    exact small_M h5
  have hyM : nrootY n 5 < M := by
    have := (rootI_most n 5 h1 (by rw [show K * K = 2 ^ 256 by decide]; exact h2) (by omega)).1
    have h3 : 3 * R < 4 * 2 ^ 256 := by decide
    exact small_M (by omega)
  have ht : Gives Tryz.prog 167 #[W n, W (nrootY n 5), .int .i64 288] (W (nrootG n)) := by
    obtain ⟨x, hx⟩ : ∃ x : Nat, x = 288 := ⟨_, rfl⟩
    have e : 2 ^ x = R * K := (show ∀ y z, x = y + z → 2 ^ x = 2 ^ y * 2 ^ z from fun y z h => by rw [h, Nat.pow_add]) 160 128 (by omega)
    have := fix_Times n (nrootY n 5) x hnM hyM (by omega) (by rw [e]; exact hG)
    rw [e, show (x : Int) = 288 by omega] at this
    exact this
  clear he hr hc h1 h2 hnM hG hyM
  generalize nrootG n = g at *
  generalize nrootY n 5 = y at *
  generalize romF = cf at *
  go_enter Tryz.func182, Tryz.ntmps182
  go_wp2_with ((first | (refine kb 3 hst rfl rfl ?_; clear hst; intro b3 w hb3 hst) | (refine ka 4 hst tz24 rfl rfl ?_; clear hst; intro b4 w hb4 hst) | (refine kl hst ta24 rfl ?_) | (refine klm hst ta24 rfl ?_) | (refine kt hst ta24 rfl rfl ?_; clear hst; intro w hst) | (refine ktm hst ta24 rfl rfl ?_; clear hst; intro w hst)); try simp only [pz, pn, sz, sc])
  refine wp_region_TV 6 [(b3, .cells (wc 8 n) 24)] hst (by kernel_rfl) ?_; clear hst; intro w hst; (try dsimp only [List.length_cons, List.length_nil]); (try simp only [List.length_cons, List.length_nil, Nat.reduceAdd, Array.replicate_succ, Array.replicate_zero, List.push_toArray, List.nil_append, List.cons_append])
  refine r0 1 ?_; simp only [pz, pn, sz, sc]
  refine rl 0 rfl ?_ (by first | exact ylA ta24 | exact ylM ta24); simp only [pz, pn, sz, sc]
  refine rl 2 rfl ?_ (by first | exact ylA ta24 | exact ylM ta24); simp only [pz, pn, sz, sc]
  refine r1 3 ?_; (first | (refine kT gf185 hst (fun w hst => hrec w (hst.own _ _ (by repeat (first | exact List.Mem.head _ | refine List.Mem.tail _ ?_))) (hst.own _ _ (by repeat (first | exact List.Mem.head _ | refine List.Mem.tail _ ?_)))) rfl rfl rfl rfl ?_; clear hst; intro w hst) | (refine kf gf167 hst (ht) rfl rfl rfl rfl ?_; clear hst; intro w hst) | (refine kp ?_)); (try simp only [pz, pn, sz, sc]); refine re ?_
  refine r1 4 ?_; (first | (refine kT gf185 hst (fun w hst => hrec w (hst.own _ _ (by repeat (first | exact List.Mem.head _ | refine List.Mem.tail _ ?_))) (hst.own _ _ (by repeat (first | exact List.Mem.head _ | refine List.Mem.tail _ ?_)))) rfl rfl rfl rfl ?_; clear hst; intro w hst) | (refine kf gf167 hst (ht) rfl rfl rfl rfl ?_; clear hst; intro w hst) | (refine kp ?_)); (try simp only [pz, pn, sz, sc]); refine re ?_
  refine r1 5 ?_; (first | (refine kt hst ta24 rfl rfl ?_; clear hst; intro w hst) | (refine ktm hst ta24 rfl rfl ?_; clear hst; intro w hst)); (try simp only [pz, pn, sz, sc]); refine re ?_
  refine rd_ ?_
  go_wp2_with ((first | (refine kb 3 hst rfl rfl ?_; clear hst; intro b3 w hb3 hst) | (refine ka 4 hst tz24 rfl rfl ?_; clear hst; intro b4 w hb4 hst) | (refine kl hst ta24 rfl ?_) | (refine klm hst ta24 rfl ?_) | (refine kt hst ta24 rfl rfl ?_; clear hst; intro w hst) | (refine ktm hst ta24 rfl rfl ?_; clear hst; intro w hst)); try simp only [pz, pn, sz, sc])
  first | exact bp_c rfl rfl (la hst ta24) (GivesT.of hst rfl (by simp)) | exact bp_c rfl rfl (la hst ta24) ⟨rfl, hst.keeps, hst.own _ _ (by simp)⟩

theorem nroot_may (be : Nat) (n : Nat) (hn : n < M) : Gives Tryz.prog 183 #[.pointer (some ⟨be, 0, none⟩), W n] (.int .i64 (if n < 2 ^ 256 then 0 else 4)) := by
  intro w0
  have hst := St.start [] w0
  have hl := wide_Len n hn
  have hb := @bl_le n 256
  generalize bl n = k at *
  by_cases h : n < 2 ^ 256
  · rw [if_pos h]
    have hk : ¬ ((256 : Int) < (k : Int)) := by have := hb.2 h; omega
    clear hb h
    go_enter Tryz.func183, Tryz.ntmps183
    go_wp2_with ((first | (refine kf gf92 hst (hl) rfl rfl rfl rfl ?_; clear hst; intro w hst) | (refine kb 3 hst rfl rfl ?_; clear hst; intro b3 w hb3 hst) | (refine kl hst ta24 rfl ?_) | (refine klm hst ta24 rfl ?_)); try simp only [pz, pn, sz, sc])
    refine bp_t rfl rfl (by rfl) ⟨?_, hst.keeps⟩
    rfl
  · rw [if_neg h]
    have hk : ((256 : Int) < (k : Int)) := by
      rcases Nat.lt_or_ge 256 k with h' | h'
      · omega
      · exact absurd (hb.1 h') h
    clear hb h
    go_enter Tryz.func183, Tryz.ntmps183
    go_wp2_with ((first | (refine kf gf92 hst (hl) rfl rfl rfl rfl ?_; clear hst; intro w hst) | (refine kb 3 hst rfl rfl ?_; clear hst; intro b3 w hb3 hst) | (refine kl hst ta24 rfl ?_) | (refine klm hst ta24 rfl ?_)); try simp only [pz, pn, sz, sc])
    refine bp_t rfl rfl (by rfl) ⟨?_, hst.keeps⟩
    rfl

/-- The rom behind a root: made where there is something to find. -/
def romTo (n : Nat) (c : Array Value) : Array Value := if n = 0 ∨ ¬ n < 2 ^ 256 then c else romF
theorem romTo_ok {n : Nat} {c : Array Value} (h : RomOk c) : RomOk (romTo n c) := by unfold romTo; split; exact h; exact Or.inr rfl
theorem romTo_zero (c : Array Value) : romTo 0 c = c := if_pos (.inl rfl)
theorem romTo_big {n : Nat} (c : Array Value) (h : ¬ n < 2 ^ 256) : romTo n c = c := if_pos (.inr h)
theorem romTo_made {n : Nat} (c : Array Value) (h0 : n ≠ 0) (h : n < 2 ^ 256) : romTo n c = romF := if_neg (by rintro (h' | h'); exact h0 h'; exact h' h)

theorem own_one {w : World} {x : Nat} {y : Obj} (h : w.heap[x]? = some y) : ∀ b o, (b, o) ∈ [(x, y)] → w.heap[b]? = some o := fun b o hm => by
  simp only [List.mem_singleton, Prod.mk.injEq] at hm
  obtain ⟨rfl, rfl⟩ := hm
  exact h

set_option maxHeartbeats 8000000 in
theorem nroot_Root (be br : Nat) (c : Array Value) (hc : RomOk c) (hne : be ≠ br) (n : Nat) (hn : n < M) (w0 : World) (he : w0.heap[be]? = some (.cells #[.pointer (some ⟨br, 0, none⟩)] 102)) (hr : w0.heap[br]? = some (.cells c 92)) :
    GivesT Tryz.prog 181 #[.pointer (some ⟨be, 0, none⟩), W n] (rootV n) [(br, .cells c 92)] [(br, .cells (romTo n c) 92)] w0 := by
  have hst := St.eng hne he hr
  have hlt := lt_of_some he
  have hltr := lt_of_some hr
  have hmay := nroot_may be n hn
  unfold rootV
  by_cases h0 : n = 0
  · subst h0
    rw [romTo_zero]
    have hnorm := srtroot_Norm_zero
    have e0 : isqrt 0 = 0 := (isqrt_of (by decide) ⟨by decide, by decide⟩).symm
    rw [if_pos (show 0 < 2 ^ 256 by decide), e0]
    rw [if_pos (show 0 < 2 ^ 256 by decide)] at hmay
    clear hc he hr
    go_enter Tryz.func181, Tryz.ntmps181
    go_wp2_with ((first | (refine kf gf183 hst (hmay) rfl rfl rfl rfl ?_; clear hst; intro w hst) | (refine kf gf124 hst (hnorm) rfl rfl rfl rfl ?_; clear hst; intro w hst) | (refine kb 3 hst rfl rfl ?_; clear hst; intro b3 w hb3 hst) | (refine ka 4 hst tz24 rfl rfl ?_; clear hst; intro b4 w hb4 hst) | (refine ka 5 hst tz24 rfl rfl ?_; clear hst; intro b5 w hb5 hst) | (refine kl hst ta24 rfl ?_) | (refine klm hst ta24 rfl ?_) | (refine ka 8 hst tz24 rfl rfl ?_; clear hst; intro b8 w hb8 hst) | (refine kt hst ta24 rfl rfl ?_; clear hst; intro w hst) | (refine ktm hst ta24 rfl rfl ?_; clear hst; intro w hst) | (refine ka 11 hst tz24 rfl rfl ?_; clear hst; intro b11 w hb11 hst) | (refine ka 12 hst tz24 rfl rfl ?_; clear hst; intro b12 w hb12 hst) | (refine ka 14 hst tz24 rfl rfl ?_; clear hst; intro b14 w hb14 hst) | (refine ka 16 hst tz24 rfl rfl ?_; clear hst; intro b16 w hb16 hst)); try simp only [pz, pn, sz, sc])
    refine bp_cct rfl rfl (la hst ta24) (la hst ta24) (by rfl) ⟨?_, hst.keeps, own_one (hst.own _ _ (by simp))⟩
    rw [W_zero]; rfl
  · by_cases h : n < 2 ^ 256
    · rw [romTo_made c h0 h, if_pos h]
      rw [if_pos h] at hmay
      have hnorm := srtroot_Norm n h0 h hn
      obtain ⟨u1, u2⟩ := norm_up n h0 h
      have hgue := fun (w : World) (q : w.heap[be]? = some (.cells #[.pointer (some ⟨br, 0, none⟩)] 102)) (h : w.heap[br]? = some (.cells c 92)) => newtonroot_guess be br c hc hne _ u1 u2 w q h
      obtain ⟨g1, g2⟩ := nrootG_near _ u1 u2
      have hfix := fix_Root (n * 2 ^ nby n) (nrootG (n * 2 ^ nby n)) 4 u2 g1 g2 (by omega) (by omega)
      have hsp := isqrt_spec (n := n * 2 ^ nby n) (by rw [four_128]; exact u2)
      have hs := @isqrt_up n _ h hsp.1
      obtain ⟨q1, q2, q3⟩ := sqrt_le h
      have hsq := prod_Square (isqrt n) q3
      rw [Nat.mod_eq_of_lt q2] at hsq
      have hsub := wide_Sub n (isqrt n * isqrt n) hn q2
      rw [sub_sq h] at hsub
      have hx : (nby n : Int).tdiv 2 = ((nby n / 2 : Nat) : Int) := by rw [Int.tdiv_eq_ediv_of_nonneg (by omega)]; omega
      have hx' : (nby n : Int) / 2 = ((nby n / 2 : Nat) : Int) := by omega
      have hxl : nby n / 2 ≤ 128 := by unfold nby; omega
      have hshr := wide_Shr (isqrt (n * 2 ^ nby n)) ((nby n / 2 : Nat) : Int) (Nat.lt_trans hsp.2 (small_M (by decide)))
      rw [clampN_nat _ (by omega), hs] at hshr
      clear hsp hs u1 u2 g1 g2 q1 q2 q3 h h0 hc he hr
      generalize off (nrootG (n * 2 ^ nby n)) (isqrt (n * 2 ^ nby n)) = d at *
      generalize nrootG (n * 2 ^ nby n) = g at *
      generalize n * 2 ^ nby n - isqrt (n * 2 ^ nby n) * isqrt (n * 2 ^ nby n) = ru at *
      generalize isqrt (n * 2 ^ nby n) = su at *
      generalize n - isqrt n * isqrt n = rv at *
      generalize isqrt n * isqrt n = sv at *
      generalize isqrt n = s at *
      generalize nby n / 2 = x at *
      generalize n * 2 ^ nby n = up at *
      generalize romF = cf at *
      go_enter Tryz.func181, Tryz.ntmps181
      go_wp2_with ((first | (refine kf gf183 hst (hmay) rfl rfl rfl rfl ?_; clear hst; intro w hst) | (refine kf gf124 hst (hnorm) rfl rfl rfl rfl ?_; clear hst; intro w hst) | (refine kb 3 hst rfl rfl ?_; clear hst; intro b3 w hb3 hst) | (refine ka 4 hst tz24 rfl rfl ?_; clear hst; intro b4 w hb4 hst) | (refine ka 5 hst tz24 rfl rfl ?_; clear hst; intro b5 w hb5 hst) | (refine kl hst ta24 rfl ?_) | (refine klm hst ta24 rfl ?_) | (refine ka 8 hst tz24 rfl rfl ?_; clear hst; intro b8 w hb8 hst) | (refine kt hst ta24 rfl rfl ?_; clear hst; intro w hst) | (refine ktm hst ta24 rfl rfl ?_; clear hst; intro w hst) | (refine ka 11 hst tz24 rfl rfl ?_; clear hst; intro b11 w hb11 hst) | (refine ka 12 hst tz24 rfl rfl ?_; clear hst; intro b12 w hb12 hst) | (refine ka 14 hst tz24 rfl rfl ?_; clear hst; intro b14 w hb14 hst) | (refine ka 16 hst tz24 rfl rfl ?_; clear hst; intro b16 w hb16 hst)); try simp only [pz, pn, sz, sc])
      refine wp_region_TV 16 [(b8, .cells (wc 8 up) 24)] hst (by kernel_rfl) ?_; clear hst; intro w hst; (try dsimp only [List.length_cons, List.length_nil]); (try simp only [List.length_cons, List.length_nil, Nat.reduceAdd, Array.replicate_succ, Array.replicate_zero, List.push_toArray, List.nil_append, List.cons_append])
      refine r0 1 ?_; simp only [pz, pn, sz, sc]
      refine rl 0 rfl ?_ (by first | exact ylA ta24 | exact ylM ta24); simp only [pz, pn, sz, sc]
      refine rl 2 rfl ?_ (by first | exact ylA ta24 | exact ylM ta24); simp only [pz, pn, sz, sc]
      refine r3 3 10 11 ?_ ?_ ?_
      (first | (refine kT gf182 hst (fun w hst => hgue w (hst.own _ _ (by repeat (first | exact List.Mem.head _ | refine List.Mem.tail _ ?_))) (hst.own _ _ (by repeat (first | exact List.Mem.head _ | refine List.Mem.tail _ ?_)))) rfl rfl rfl rfl ?_; clear hst; intro w hst) | (refine kf gf184 hst (hfix) rfl rfl rfl rfl ?_; clear hst; intro w hst) | (refine kp ?_)); (try simp only [pz, pn, sz, sc]); refine re ?_
      refine r3 4 10 11 ?_ ?_ ?_
      (first | (refine kT gf182 hst (fun w hst => hgue w (hst.own _ _ (by repeat (first | exact List.Mem.head _ | refine List.Mem.tail _ ?_))) (hst.own _ _ (by repeat (first | exact List.Mem.head _ | refine List.Mem.tail _ ?_)))) rfl rfl rfl rfl ?_; clear hst; intro w hst) | (refine kf gf184 hst (hfix) rfl rfl rfl rfl ?_; clear hst; intro w hst) | (refine kp ?_)); (try simp only [pz, pn, sz, sc]); refine re ?_
      refine r0 5 ?_; simp only [pz, pn, sz, sc]
      refine r0 6 ?_; simp only [pz, pn, sz, sc]
      refine r0 7 ?_; simp only [pz, pn, sz, sc]
      refine r0 8 ?_; simp only [pz, pn, sz, sc]
      refine r0 9 ?_; simp only [pz, pn, sz, sc]
      refine r2 10 11 ?_ ?_
      (refine ka 11 hst tz24 rfl rfl ?_; clear hst; intro b11 w hb11 hst); (try simp only [pz, pn, sz, sc]); refine re ?_
      refine r1 11 ?_; (refine ka 12 hst tz24 rfl rfl ?_; clear hst; intro b12 w hb12 hst); (try simp only [pz, pn, sz, sc]); refine re ?_
      refine r1 12 ?_; (first | (refine kt hst ta24 rfl rfl ?_; clear hst; intro w hst) | (refine ktm hst ta24 rfl rfl ?_; clear hst; intro w hst)); (try simp only [pz, pn, sz, sc]); refine re ?_
      refine r1 13 ?_; (first | (refine kt hst ta24 rfl rfl ?_; clear hst; intro w hst) | (refine ktm hst ta24 rfl rfl ?_; clear hst; intro w hst)); (try simp only [pz, pn, sz, sc]); refine re ?_
      refine r0 14 ?_; simp only [pz, pn, sz, sc]
      refine r0 15 ?_; simp only [pz, pn, sz, sc]
      refine rd_ ?_
      rotate_left 1
      (refine ka 12 hst tz24 rfl rfl ?_; clear hst; intro b12 w hb12 hst); (try simp only [pz, pn, sz, sc]); refine re ?_
      refine r1 10 ?_; (refine ka 11 hst tz24 rfl rfl ?_; clear hst; intro b11 w hb11 hst); (try simp only [pz, pn, sz, sc]); refine re ?_
      refine r1 12 ?_; (first | (refine kt hst ta24 rfl rfl ?_; clear hst; intro w hst) | (refine ktm hst ta24 rfl rfl ?_; clear hst; intro w hst)); (try simp only [pz, pn, sz, sc]); refine re ?_
      refine r1 13 ?_; (first | (refine kt hst ta24 rfl rfl ?_; clear hst; intro w hst) | (refine ktm hst ta24 rfl rfl ?_; clear hst; intro w hst)); (try simp only [pz, pn, sz, sc]); refine re ?_
      refine r0 14 ?_; simp only [pz, pn, sz, sc]
      refine r0 15 ?_; simp only [pz, pn, sz, sc]
      refine rd_ ?_
      rotate_right 1
      rotate_left 2
      (refine ka 11 hst tz24 rfl rfl ?_; clear hst; intro b11 w hb11 hst); (try simp only [pz, pn, sz, sc]); refine re ?_
      refine r2 4 11 ?_ ?_
      (first | (refine kT gf182 hst (fun w hst => hgue w (hst.own _ _ (by repeat (first | exact List.Mem.head _ | refine List.Mem.tail _ ?_))) (hst.own _ _ (by repeat (first | exact List.Mem.head _ | refine List.Mem.tail _ ?_)))) rfl rfl rfl rfl ?_; clear hst; intro w hst) | (refine kf gf184 hst (hfix) rfl rfl rfl rfl ?_; clear hst; intro w hst) | (refine kp ?_)); (try simp only [pz, pn, sz, sc]); refine re ?_
      refine r0 5 ?_; simp only [pz, pn, sz, sc]
      refine r0 6 ?_; simp only [pz, pn, sz, sc]
      refine r0 7 ?_; simp only [pz, pn, sz, sc]
      refine r0 8 ?_; simp only [pz, pn, sz, sc]
      refine r0 9 ?_; simp only [pz, pn, sz, sc]
      refine r1 11 ?_; (refine ka 12 hst tz24 rfl rfl ?_; clear hst; intro b12 w hb12 hst); (try simp only [pz, pn, sz, sc]); refine re ?_
      refine r1 12 ?_; (first | (refine kt hst ta24 rfl rfl ?_; clear hst; intro w hst) | (refine ktm hst ta24 rfl rfl ?_; clear hst; intro w hst)); (try simp only [pz, pn, sz, sc]); refine re ?_
      refine r1 13 ?_; (first | (refine kt hst ta24 rfl rfl ?_; clear hst; intro w hst) | (refine ktm hst ta24 rfl rfl ?_; clear hst; intro w hst)); (try simp only [pz, pn, sz, sc]); refine re ?_
      refine r0 14 ?_; simp only [pz, pn, sz, sc]
      refine r0 15 ?_; simp only [pz, pn, sz, sc]
      refine rd_ ?_
      rotate_left 1
      (refine ka 12 hst tz24 rfl rfl ?_; clear hst; intro b12 w hb12 hst); (try simp only [pz, pn, sz, sc]); refine re ?_
      refine r1 4 ?_; (first | (refine kT gf182 hst (fun w hst => hgue w (hst.own _ _ (by repeat (first | exact List.Mem.head _ | refine List.Mem.tail _ ?_))) (hst.own _ _ (by repeat (first | exact List.Mem.head _ | refine List.Mem.tail _ ?_)))) rfl rfl rfl rfl ?_; clear hst; intro w hst) | (refine kf gf184 hst (hfix) rfl rfl rfl rfl ?_; clear hst; intro w hst) | (refine kp ?_)); (try simp only [pz, pn, sz, sc]); refine re ?_
      refine r0 5 ?_; simp only [pz, pn, sz, sc]
      refine r0 6 ?_; simp only [pz, pn, sz, sc]
      refine r0 7 ?_; simp only [pz, pn, sz, sc]
      refine r0 8 ?_; simp only [pz, pn, sz, sc]
      refine r0 9 ?_; simp only [pz, pn, sz, sc]
      refine r1 12 ?_; (first | (refine kt hst ta24 rfl rfl ?_; clear hst; intro w hst) | (refine ktm hst ta24 rfl rfl ?_; clear hst; intro w hst)); (try simp only [pz, pn, sz, sc]); refine re ?_
      refine r1 13 ?_; (first | (refine kt hst ta24 rfl rfl ?_; clear hst; intro w hst) | (refine ktm hst ta24 rfl rfl ?_; clear hst; intro w hst)); (try simp only [pz, pn, sz, sc]); refine re ?_
      refine r0 14 ?_; simp only [pz, pn, sz, sc]
      refine r0 15 ?_; simp only [pz, pn, sz, sc]
      refine rd_ ?_
      rotate_right 1
      rotate_left 2
      (refine ka 12 hst tz24 rfl rfl ?_; clear hst; intro b12 w hb12 hst); (try simp only [pz, pn, sz, sc]); refine re ?_
      refine r2 4 10 ?_ ?_
      (first | (refine kT gf182 hst (fun w hst => hgue w (hst.own _ _ (by repeat (first | exact List.Mem.head _ | refine List.Mem.tail _ ?_))) (hst.own _ _ (by repeat (first | exact List.Mem.head _ | refine List.Mem.tail _ ?_)))) rfl rfl rfl rfl ?_; clear hst; intro w hst) | (refine kf gf184 hst (hfix) rfl rfl rfl rfl ?_; clear hst; intro w hst) | (refine kp ?_)); (try simp only [pz, pn, sz, sc]); refine re ?_
      refine r0 5 ?_; simp only [pz, pn, sz, sc]
      refine r0 6 ?_; simp only [pz, pn, sz, sc]
      refine r0 7 ?_; simp only [pz, pn, sz, sc]
      refine r0 8 ?_; simp only [pz, pn, sz, sc]
      refine r0 9 ?_; simp only [pz, pn, sz, sc]
      refine r1 10 ?_; (refine ka 11 hst tz24 rfl rfl ?_; clear hst; intro b11 w hb11 hst); (try simp only [pz, pn, sz, sc]); refine re ?_
      refine r1 12 ?_; (first | (refine kt hst ta24 rfl rfl ?_; clear hst; intro w hst) | (refine ktm hst ta24 rfl rfl ?_; clear hst; intro w hst)); (try simp only [pz, pn, sz, sc]); refine re ?_
      refine r1 13 ?_; (first | (refine kt hst ta24 rfl rfl ?_; clear hst; intro w hst) | (refine ktm hst ta24 rfl rfl ?_; clear hst; intro w hst)); (try simp only [pz, pn, sz, sc]); refine re ?_
      refine r0 14 ?_; simp only [pz, pn, sz, sc]
      refine r0 15 ?_; simp only [pz, pn, sz, sc]
      refine rd_ ?_
      rotate_left 1
      (refine ka 11 hst tz24 rfl rfl ?_; clear hst; intro b11 w hb11 hst); (try simp only [pz, pn, sz, sc]); refine re ?_
      refine r1 4 ?_; (first | (refine kT gf182 hst (fun w hst => hgue w (hst.own _ _ (by repeat (first | exact List.Mem.head _ | refine List.Mem.tail _ ?_))) (hst.own _ _ (by repeat (first | exact List.Mem.head _ | refine List.Mem.tail _ ?_)))) rfl rfl rfl rfl ?_; clear hst; intro w hst) | (refine kf gf184 hst (hfix) rfl rfl rfl rfl ?_; clear hst; intro w hst) | (refine kp ?_)); (try simp only [pz, pn, sz, sc]); refine re ?_
      refine r0 5 ?_; simp only [pz, pn, sz, sc]
      refine r0 6 ?_; simp only [pz, pn, sz, sc]
      refine r0 7 ?_; simp only [pz, pn, sz, sc]
      refine r0 8 ?_; simp only [pz, pn, sz, sc]
      refine r0 9 ?_; simp only [pz, pn, sz, sc]
      refine r1 12 ?_; (first | (refine kt hst ta24 rfl rfl ?_; clear hst; intro w hst) | (refine ktm hst ta24 rfl rfl ?_; clear hst; intro w hst)); (try simp only [pz, pn, sz, sc]); refine re ?_
      refine r1 13 ?_; (first | (refine kt hst ta24 rfl rfl ?_; clear hst; intro w hst) | (refine ktm hst ta24 rfl rfl ?_; clear hst; intro w hst)); (try simp only [pz, pn, sz, sc]); refine re ?_
      refine r0 14 ?_; simp only [pz, pn, sz, sc]
      refine r0 15 ?_; simp only [pz, pn, sz, sc]
      refine rd_ ?_
      rotate_right 1
      rotate_right 4
      rotate_left 6
      (refine ka 11 hst tz24 rfl rfl ?_; clear hst; intro b11 w hb11 hst); (try simp only [pz, pn, sz, sc]); refine re ?_
      refine r2 3 11 ?_ ?_
      (first | (refine kT gf182 hst (fun w hst => hgue w (hst.own _ _ (by repeat (first | exact List.Mem.head _ | refine List.Mem.tail _ ?_))) (hst.own _ _ (by repeat (first | exact List.Mem.head _ | refine List.Mem.tail _ ?_)))) rfl rfl rfl rfl ?_; clear hst; intro w hst) | (refine kf gf184 hst (hfix) rfl rfl rfl rfl ?_; clear hst; intro w hst) | (refine kp ?_)); (try simp only [pz, pn, sz, sc]); refine re ?_
      refine r2 4 11 ?_ ?_
      (first | (refine kT gf182 hst (fun w hst => hgue w (hst.own _ _ (by repeat (first | exact List.Mem.head _ | refine List.Mem.tail _ ?_))) (hst.own _ _ (by repeat (first | exact List.Mem.head _ | refine List.Mem.tail _ ?_)))) rfl rfl rfl rfl ?_; clear hst; intro w hst) | (refine kf gf184 hst (hfix) rfl rfl rfl rfl ?_; clear hst; intro w hst) | (refine kp ?_)); (try simp only [pz, pn, sz, sc]); refine re ?_
      refine r0 5 ?_; simp only [pz, pn, sz, sc]
      refine r0 6 ?_; simp only [pz, pn, sz, sc]
      refine r0 7 ?_; simp only [pz, pn, sz, sc]
      refine r0 8 ?_; simp only [pz, pn, sz, sc]
      refine r0 9 ?_; simp only [pz, pn, sz, sc]
      refine r1 11 ?_; (refine ka 12 hst tz24 rfl rfl ?_; clear hst; intro b12 w hb12 hst); (try simp only [pz, pn, sz, sc]); refine re ?_
      refine r1 12 ?_; (first | (refine kt hst ta24 rfl rfl ?_; clear hst; intro w hst) | (refine ktm hst ta24 rfl rfl ?_; clear hst; intro w hst)); (try simp only [pz, pn, sz, sc]); refine re ?_
      refine r1 13 ?_; (first | (refine kt hst ta24 rfl rfl ?_; clear hst; intro w hst) | (refine ktm hst ta24 rfl rfl ?_; clear hst; intro w hst)); (try simp only [pz, pn, sz, sc]); refine re ?_
      refine r0 14 ?_; simp only [pz, pn, sz, sc]
      refine r0 15 ?_; simp only [pz, pn, sz, sc]
      refine rd_ ?_
      rotate_left 1
      (refine ka 12 hst tz24 rfl rfl ?_; clear hst; intro b12 w hb12 hst); (try simp only [pz, pn, sz, sc]); refine re ?_
      refine r1 4 ?_; (first | (refine kT gf182 hst (fun w hst => hgue w (hst.own _ _ (by repeat (first | exact List.Mem.head _ | refine List.Mem.tail _ ?_))) (hst.own _ _ (by repeat (first | exact List.Mem.head _ | refine List.Mem.tail _ ?_)))) rfl rfl rfl rfl ?_; clear hst; intro w hst) | (refine kf gf184 hst (hfix) rfl rfl rfl rfl ?_; clear hst; intro w hst) | (refine kp ?_)); (try simp only [pz, pn, sz, sc]); refine re ?_
      refine r0 5 ?_; simp only [pz, pn, sz, sc]
      refine r0 6 ?_; simp only [pz, pn, sz, sc]
      refine r0 7 ?_; simp only [pz, pn, sz, sc]
      refine r0 8 ?_; simp only [pz, pn, sz, sc]
      refine r0 9 ?_; simp only [pz, pn, sz, sc]
      refine r1 12 ?_; (first | (refine kt hst ta24 rfl rfl ?_; clear hst; intro w hst) | (refine ktm hst ta24 rfl rfl ?_; clear hst; intro w hst)); (try simp only [pz, pn, sz, sc]); refine re ?_
      refine r1 13 ?_; (first | (refine kt hst ta24 rfl rfl ?_; clear hst; intro w hst) | (refine ktm hst ta24 rfl rfl ?_; clear hst; intro w hst)); (try simp only [pz, pn, sz, sc]); refine re ?_
      refine r0 14 ?_; simp only [pz, pn, sz, sc]
      refine r0 15 ?_; simp only [pz, pn, sz, sc]
      refine rd_ ?_
      rotate_right 1
      rotate_left 2
      (refine ka 12 hst tz24 rfl rfl ?_; clear hst; intro b12 w hb12 hst); (try simp only [pz, pn, sz, sc]); refine re ?_
      refine r1 3 ?_; (first | (refine kT gf182 hst (fun w hst => hgue w (hst.own _ _ (by repeat (first | exact List.Mem.head _ | refine List.Mem.tail _ ?_))) (hst.own _ _ (by repeat (first | exact List.Mem.head _ | refine List.Mem.tail _ ?_)))) rfl rfl rfl rfl ?_; clear hst; intro w hst) | (refine kf gf184 hst (hfix) rfl rfl rfl rfl ?_; clear hst; intro w hst) | (refine kp ?_)); (try simp only [pz, pn, sz, sc]); refine re ?_
      refine r1 4 ?_; (first | (refine kT gf182 hst (fun w hst => hgue w (hst.own _ _ (by repeat (first | exact List.Mem.head _ | refine List.Mem.tail _ ?_))) (hst.own _ _ (by repeat (first | exact List.Mem.head _ | refine List.Mem.tail _ ?_)))) rfl rfl rfl rfl ?_; clear hst; intro w hst) | (refine kf gf184 hst (hfix) rfl rfl rfl rfl ?_; clear hst; intro w hst) | (refine kp ?_)); (try simp only [pz, pn, sz, sc]); refine re ?_
      refine r0 5 ?_; simp only [pz, pn, sz, sc]
      refine r0 6 ?_; simp only [pz, pn, sz, sc]
      refine r0 7 ?_; simp only [pz, pn, sz, sc]
      refine r0 8 ?_; simp only [pz, pn, sz, sc]
      refine r0 9 ?_; simp only [pz, pn, sz, sc]
      refine r1 12 ?_; (first | (refine kt hst ta24 rfl rfl ?_; clear hst; intro w hst) | (refine ktm hst ta24 rfl rfl ?_; clear hst; intro w hst)); (try simp only [pz, pn, sz, sc]); refine re ?_
      refine r1 13 ?_; (first | (refine kt hst ta24 rfl rfl ?_; clear hst; intro w hst) | (refine ktm hst ta24 rfl rfl ?_; clear hst; intro w hst)); (try simp only [pz, pn, sz, sc]); refine re ?_
      refine r0 14 ?_; simp only [pz, pn, sz, sc]
      refine r0 15 ?_; simp only [pz, pn, sz, sc]
      refine rd_ ?_
      rotate_right 2
      rotate_left 3
      (refine ka 12 hst tz24 rfl rfl ?_; clear hst; intro b12 w hb12 hst); (try simp only [pz, pn, sz, sc]); refine re ?_
      refine r2 3 10 ?_ ?_
      (first | (refine kT gf182 hst (fun w hst => hgue w (hst.own _ _ (by repeat (first | exact List.Mem.head _ | refine List.Mem.tail _ ?_))) (hst.own _ _ (by repeat (first | exact List.Mem.head _ | refine List.Mem.tail _ ?_)))) rfl rfl rfl rfl ?_; clear hst; intro w hst) | (refine kf gf184 hst (hfix) rfl rfl rfl rfl ?_; clear hst; intro w hst) | (refine kp ?_)); (try simp only [pz, pn, sz, sc]); refine re ?_
      refine r2 4 10 ?_ ?_
      (first | (refine kT gf182 hst (fun w hst => hgue w (hst.own _ _ (by repeat (first | exact List.Mem.head _ | refine List.Mem.tail _ ?_))) (hst.own _ _ (by repeat (first | exact List.Mem.head _ | refine List.Mem.tail _ ?_)))) rfl rfl rfl rfl ?_; clear hst; intro w hst) | (refine kf gf184 hst (hfix) rfl rfl rfl rfl ?_; clear hst; intro w hst) | (refine kp ?_)); (try simp only [pz, pn, sz, sc]); refine re ?_
      refine r0 5 ?_; simp only [pz, pn, sz, sc]
      refine r0 6 ?_; simp only [pz, pn, sz, sc]
      refine r0 7 ?_; simp only [pz, pn, sz, sc]
      refine r0 8 ?_; simp only [pz, pn, sz, sc]
      refine r0 9 ?_; simp only [pz, pn, sz, sc]
      refine r1 10 ?_; (refine ka 11 hst tz24 rfl rfl ?_; clear hst; intro b11 w hb11 hst); (try simp only [pz, pn, sz, sc]); refine re ?_
      refine r1 12 ?_; (first | (refine kt hst ta24 rfl rfl ?_; clear hst; intro w hst) | (refine ktm hst ta24 rfl rfl ?_; clear hst; intro w hst)); (try simp only [pz, pn, sz, sc]); refine re ?_
      refine r1 13 ?_; (first | (refine kt hst ta24 rfl rfl ?_; clear hst; intro w hst) | (refine ktm hst ta24 rfl rfl ?_; clear hst; intro w hst)); (try simp only [pz, pn, sz, sc]); refine re ?_
      refine r0 14 ?_; simp only [pz, pn, sz, sc]
      refine r0 15 ?_; simp only [pz, pn, sz, sc]
      refine rd_ ?_
      rotate_left 1
      (refine ka 11 hst tz24 rfl rfl ?_; clear hst; intro b11 w hb11 hst); (try simp only [pz, pn, sz, sc]); refine re ?_
      refine r1 4 ?_; (first | (refine kT gf182 hst (fun w hst => hgue w (hst.own _ _ (by repeat (first | exact List.Mem.head _ | refine List.Mem.tail _ ?_))) (hst.own _ _ (by repeat (first | exact List.Mem.head _ | refine List.Mem.tail _ ?_)))) rfl rfl rfl rfl ?_; clear hst; intro w hst) | (refine kf gf184 hst (hfix) rfl rfl rfl rfl ?_; clear hst; intro w hst) | (refine kp ?_)); (try simp only [pz, pn, sz, sc]); refine re ?_
      refine r0 5 ?_; simp only [pz, pn, sz, sc]
      refine r0 6 ?_; simp only [pz, pn, sz, sc]
      refine r0 7 ?_; simp only [pz, pn, sz, sc]
      refine r0 8 ?_; simp only [pz, pn, sz, sc]
      refine r0 9 ?_; simp only [pz, pn, sz, sc]
      refine r1 12 ?_; (first | (refine kt hst ta24 rfl rfl ?_; clear hst; intro w hst) | (refine ktm hst ta24 rfl rfl ?_; clear hst; intro w hst)); (try simp only [pz, pn, sz, sc]); refine re ?_
      refine r1 13 ?_; (first | (refine kt hst ta24 rfl rfl ?_; clear hst; intro w hst) | (refine ktm hst ta24 rfl rfl ?_; clear hst; intro w hst)); (try simp only [pz, pn, sz, sc]); refine re ?_
      refine r0 14 ?_; simp only [pz, pn, sz, sc]
      refine r0 15 ?_; simp only [pz, pn, sz, sc]
      refine rd_ ?_
      rotate_right 1
      rotate_left 2
      (refine ka 11 hst tz24 rfl rfl ?_; clear hst; intro b11 w hb11 hst); (try simp only [pz, pn, sz, sc]); refine re ?_
      refine r1 3 ?_; (first | (refine kT gf182 hst (fun w hst => hgue w (hst.own _ _ (by repeat (first | exact List.Mem.head _ | refine List.Mem.tail _ ?_))) (hst.own _ _ (by repeat (first | exact List.Mem.head _ | refine List.Mem.tail _ ?_)))) rfl rfl rfl rfl ?_; clear hst; intro w hst) | (refine kf gf184 hst (hfix) rfl rfl rfl rfl ?_; clear hst; intro w hst) | (refine kp ?_)); (try simp only [pz, pn, sz, sc]); refine re ?_
      refine r1 4 ?_; (first | (refine kT gf182 hst (fun w hst => hgue w (hst.own _ _ (by repeat (first | exact List.Mem.head _ | refine List.Mem.tail _ ?_))) (hst.own _ _ (by repeat (first | exact List.Mem.head _ | refine List.Mem.tail _ ?_)))) rfl rfl rfl rfl ?_; clear hst; intro w hst) | (refine kf gf184 hst (hfix) rfl rfl rfl rfl ?_; clear hst; intro w hst) | (refine kp ?_)); (try simp only [pz, pn, sz, sc]); refine re ?_
      refine r0 5 ?_; simp only [pz, pn, sz, sc]
      refine r0 6 ?_; simp only [pz, pn, sz, sc]
      refine r0 7 ?_; simp only [pz, pn, sz, sc]
      refine r0 8 ?_; simp only [pz, pn, sz, sc]
      refine r0 9 ?_; simp only [pz, pn, sz, sc]
      refine r1 12 ?_; (first | (refine kt hst ta24 rfl rfl ?_; clear hst; intro w hst) | (refine ktm hst ta24 rfl rfl ?_; clear hst; intro w hst)); (try simp only [pz, pn, sz, sc]); refine re ?_
      refine r1 13 ?_; (first | (refine kt hst ta24 rfl rfl ?_; clear hst; intro w hst) | (refine ktm hst ta24 rfl rfl ?_; clear hst; intro w hst)); (try simp only [pz, pn, sz, sc]); refine re ?_
      refine r0 14 ?_; simp only [pz, pn, sz, sc]
      refine r0 15 ?_; simp only [pz, pn, sz, sc]
      refine rd_ ?_
      rotate_right 2
      rotate_right 9
      all_goals
        go_wp2_with ((first | (refine kf gf123 hst (hshr) rfl rfl rfl rfl ?_; clear hst; intro w hst) | (refine kf gf127 hst (hsq) rfl rfl rfl rfl ?_; clear hst; intro w hst) | (refine kf gf95 hst (hsub) rfl rfl rfl rfl ?_; clear hst; intro w hst) | (refine kb 3 hst rfl rfl ?_; clear hst; intro b3 w hb3 hst) | (refine ka 4 hst tz24 rfl rfl ?_; clear hst; intro b4 w hb4 hst) | (refine ka 5 hst tz24 rfl rfl ?_; clear hst; intro b5 w hb5 hst) | (refine kl hst ta24 rfl ?_) | (refine klm hst ta24 rfl ?_) | (refine ka 8 hst tz24 rfl rfl ?_; clear hst; intro b8 w hb8 hst) | (refine kt hst ta24 rfl rfl ?_; clear hst; intro w hst) | (refine ktm hst ta24 rfl rfl ?_; clear hst; intro w hst) | (refine ka 11 hst tz24 rfl rfl ?_; clear hst; intro b11 w hb11 hst) | (refine ka 12 hst tz24 rfl rfl ?_; clear hst; intro b12 w hb12 hst) | (refine ka 14 hst tz24 rfl rfl ?_; clear hst; intro b14 w hb14 hst) | (refine ka 16 hst tz24 rfl rfl ?_; clear hst; intro b16 w hb16 hst)); try simp only [pz, pn, sz, sc])
        refine wp_region_TV 6 [(b16, .cells (wc 8 rv) 24), (b11, .cells (wc 8 s) 24)] hst (by kernel_rfl) ?_; clear hst; intro w hst; (try dsimp only [List.length_cons, List.length_nil]); (try simp only [List.length_cons, List.length_nil, Nat.reduceAdd, Array.replicate_succ, Array.replicate_zero, List.push_toArray, List.nil_append, List.cons_append])
        refine r0 2 ?_; simp only [pz, pn, sz, sc]
        refine rl 0 rfl ?_ (by first | exact ylA ta24 | exact ylM ta24); simp only [pz, pn, sz, sc]
        refine rl 1 rfl ?_ (by first | exact ylA ta24 | exact ylM ta24); simp only [pz, pn, sz, sc]
        refine r1 3 ?_; (first | (refine kt hst ta24 rfl rfl ?_; clear hst; intro w hst) | (refine ktm hst ta24 rfl rfl ?_; clear hst; intro w hst)); (try simp only [pz, pn, sz, sc]); refine re ?_
        refine r1 4 ?_; (first | (refine kt hst ta24 rfl rfl ?_; clear hst; intro w hst) | (refine ktm hst ta24 rfl rfl ?_; clear hst; intro w hst)); (try simp only [pz, pn, sz, sc]); refine re ?_
        refine r0 5 ?_; simp only [pz, pn, sz, sc]
        refine rd_ ?_
        go_wp2_with ((first | (refine kb 3 hst rfl rfl ?_; clear hst; intro b3 w hb3 hst) | (refine ka 4 hst tz24 rfl rfl ?_; clear hst; intro b4 w hb4 hst) | (refine ka 5 hst tz24 rfl rfl ?_; clear hst; intro b5 w hb5 hst) | (refine kl hst ta24 rfl ?_) | (refine klm hst ta24 rfl ?_) | (refine ka 8 hst tz24 rfl rfl ?_; clear hst; intro b8 w hb8 hst) | (refine kt hst ta24 rfl rfl ?_; clear hst; intro w hst) | (refine ktm hst ta24 rfl rfl ?_; clear hst; intro w hst) | (refine ka 11 hst tz24 rfl rfl ?_; clear hst; intro b11 w hb11 hst) | (refine ka 12 hst tz24 rfl rfl ?_; clear hst; intro b12 w hb12 hst) | (refine ka 14 hst tz24 rfl rfl ?_; clear hst; intro b14 w hb14 hst) | (refine ka 16 hst tz24 rfl rfl ?_; clear hst; intro b16 w hb16 hst)); try simp only [pz, pn, sz, sc])
        refine bp_cct rfl rfl (la hst ta24) (la hst ta24) (by rfl) ⟨?_, hst.keeps, own_one (hst.own _ _ (by simp))⟩
        rfl
    · rw [romTo_big c h, if_neg h]
      rw [if_neg h] at hmay
      have hnorm := srtroot_Norm_big n h hn
      clear h h0 hc he hr
      go_enter Tryz.func181, Tryz.ntmps181
      go_wp2_with ((first | (refine kf gf183 hst (hmay) rfl rfl rfl rfl ?_; clear hst; intro w hst) | (refine kf gf124 hst (hnorm) rfl rfl rfl rfl ?_; clear hst; intro w hst) | (refine kb 3 hst rfl rfl ?_; clear hst; intro b3 w hb3 hst) | (refine ka 4 hst tz24 rfl rfl ?_; clear hst; intro b4 w hb4 hst) | (refine ka 5 hst tz24 rfl rfl ?_; clear hst; intro b5 w hb5 hst) | (refine kl hst ta24 rfl ?_) | (refine klm hst ta24 rfl ?_) | (refine ka 8 hst tz24 rfl rfl ?_; clear hst; intro b8 w hb8 hst) | (refine kt hst ta24 rfl rfl ?_; clear hst; intro w hst) | (refine ktm hst ta24 rfl rfl ?_; clear hst; intro w hst) | (refine ka 11 hst tz24 rfl rfl ?_; clear hst; intro b11 w hb11 hst) | (refine ka 12 hst tz24 rfl rfl ?_; clear hst; intro b12 w hb12 hst) | (refine ka 14 hst tz24 rfl rfl ?_; clear hst; intro b14 w hb14 hst) | (refine ka 16 hst tz24 rfl rfl ?_; clear hst; intro b16 w hb16 hst)); try simp only [pz, pn, sz, sc])
      refine bp_cct rfl rfl (la hst ta24) (la hst ta24) (by rfl) ⟨?_, hst.keeps, own_one (hst.own _ _ (by simp))⟩
      rw [W_zero]; rfl

end Go.Proofs.YtggchelniblipaaGreatDoor.Rd
