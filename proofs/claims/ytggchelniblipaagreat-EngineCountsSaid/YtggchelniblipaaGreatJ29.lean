/- What srt's closure, run, shifted, Divide answer, whatever the table's numbers are. -/
import Derived.Test.YtggchelniblipaaGreatJ17
import Derived.Test.YtggchelniblipaaGreatJ28
namespace Go.Proofs.YtggchelniblipaaGreat.Rd
open Go Go.RowKit
set_option linter.unusedVariables false
set_option linter.unusedSimpArgs false
set_option maxRecDepth 100000

/-- The digit at a place; what is left then; the state behind some steps. -/
def sDig (tc : Array Value) (d l : Nat) (p : Int) : Int := tdig tc (trowI d) (sm (sarN l (clampN (124 + 2 * p))))
def sLeft (tc : Array Value) (d l : Nat) (p : Int) : Nat := (l + M - toW (((d * 2 ^ clampN (2 * p) % M : Nat) : Int) * sDig tc d l p)) % M
def sSt (tc : Array Value) (n d : Nat) : Nat → Nat × Nat × Nat
  | 0 => (n, 0, M - 1)
  | k + 1 => (sLeft tc d (sSt tc n d k).1 (64 - (k : Int)), flyQ (sSt tc n d k).2.1 (sSt tc n d k).2.2 (sDig tc d (sSt tc n d k).1 (64 - (k : Int))), flyS (sSt tc n d k).2.1 (sSt tc n d k).2.2 (sDig tc d (sSt tc n d k).1 (64 - (k : Int))))
theorem sSt_succ (tc : Array Value) (n d k : Nat) : sSt tc n d (k + 1) = (sLeft tc d (sSt tc n d k).1 (64 - (k : Int)), flyQ (sSt tc n d k).2.1 (sSt tc n d k).2.2 (sDig tc d (sSt tc n d k).1 (64 - (k : Int))), flyS (sSt tc n d k).2.1 (sSt tc n d k).2.2 (sDig tc d (sSt tc n d k).1 (64 - (k : Int)))) := rfl
theorem sDig_in (tc : Array Value) (d l : Nat) (p : Int) : -2 ≤ sDig tc d l p ∧ sDig tc d l p ≤ 2 := tdig_in _ _ _
theorem sSt_lt (tc : Array Value) (n d : Nat) (hn : n < M) : ∀ k, (sSt tc n d k).1 < M ∧ (sSt tc n d k).2.1 < M ∧ (sSt tc n d k).2.2 < M
  | 0 => ⟨hn, M_pos, by show M - 1 < M; have := M_pos; omega⟩
  | k + 1 => by
    obtain ⟨h1, h2⟩ := sDig_in tc d (sSt tc n d k).1 (64 - (k : Int))
    exact ⟨Nat.mod_lt _ M_pos, flyQ_lt _ _ _ h1 h2, flyS_lt _ _ _ h1 h2⟩

/-- A step's cells. -/
theorem sstp_size (p g : Int) (l : Nat) : (#[Value.int .i64 p, .int .i64 g] ++ wc 8 l).size = 10 := by simp
theorem sstp_one (p g : Int) (l : Nat) : OneC (#[Value.int .i64 p, .int .i64 g] ++ wc 8 l) := ⟨by rw [Array.all_append, wc_one]; first | kernel_rfl | simp [Value.oneCell'] | rfl⟩

set_option maxHeartbeats 4000000 in
theorem srt_Divide_1 (p g : Int) (h1 : -2 ≤ g) (h2 : g ≤ 2) (l q s r b1 b2 : Nat) (hq : q < M) (hs : s < M) (E2 : TypeId) (hne : b2 ≠ b1) (w0 : World) (hb1 : w0.heap[b1]? = some (.cells (wc 8 q ++ wc 8 s) 177)) (hb2 : w0.heap[b2]? = some (.cells (wc 8 r) E2)) :
    GivesT Tryz.prog 118 #[.agg (#[.int .i64 p, .int .i64 g] ++ wc 8 l), .pointer (some ⟨b1, 0, none⟩), .pointer (some ⟨b2, 0, none⟩)] (.bool true) [(b1, .cells (wc 8 q ++ wc 8 s) 177), (b2, .cells (wc 8 r) E2)] [(b1, .cells (wc 8 (flyQ q s g) ++ wc 8 (flyS q s g)) 177), (b2, .cells (wc 8 l) E2)] w0 := by
  have hst := Swap.two hne hb1 hb2 [b1, b2]
  have hs1 := lt_of_some hb1
  have hs2 := lt_of_some hb2
  have hnx := fly_Next q s hq hs g h1 h2
  have z1 := sstp_size p g l
  have z2 := sstp_one p g l
  have y1 : (wc 8 q ++ wc 8 s).size = 16 := by simp
  have y2 := app_one q s
  generalize flyQ q s g = q' at *
  generalize flyS q s g = s' at *
  have y3 : (wc 8 q' ++ wc 8 s').size = 16 := by simp
  have y4 := app_one q' s'
  clear hb1 hb2 hq hs h1 h2
  go_enter Tryz.func118, Tryz.ntmps118
  go_wp2_with ((first | (refine kf gf119 hst (hnx) rfl rfl rfl rfl ?_; clear hst; intro w hst) | (refine klm hst ta25 rfl ?_ (hc := part1 2 _ _ _ rfl rfl)) | (refine kb 3 hst rfl rfl ?_; clear hst; intro b3 w hb3 hst) | (refine kl hst ta177 rfl ?_) | (refine klm hst ta177 rfl ?_) | (refine kc hst tc3 rfl ?_) | (refine kt hst ta177 rfl rfl ?_; clear hst; intro w hst) | (refine ktm hst ta177 rfl rfl ?_; clear hst; intro w hst) | (refine kl hst ta25 rfl ?_) | (refine klm hst ta25 rfl ?_) | (refine kt hst ta25 rfl rfl ?_; clear hst; intro w hst) | (refine ktm hst ta25 rfl rfl ?_; clear hst; intro w hst)); try simp only [pz, pn, sz, sc])
  exact bp_t rfl rfl (by rfl) (GivesT.of hst rfl (by simp))

set_option maxHeartbeats 8000000 in
theorem srt_run (tc : Array Value) (htc : TabOk tc) (n d c1 c2 : Nat) (hn : n < M) (hd : d < M) (E2 : TypeId) (hne : c2 ≠ c1) (w0 : World) (hg : w0.heap[0]? = some (.cells tc 212)) (hg1 : c1 ≠ 0) (hg2 : c2 ≠ 0) (h1 : w0.heap[c1]? = some (.cells (wc 8 0 ++ wc 8 (M - 1)) 177)) (h2 : w0.heap[c2]? = some (.cells (wc 8 0) E2)) :
    GivesT Tryz.prog 117 #[W n, W d, .func (.func 118) #[] #[.pointer (some ⟨c1, 0, none⟩), .pointer (some ⟨c2, 0, none⟩)]] (.tuple #[]) [(c1, .cells (wc 8 0 ++ wc 8 (M - 1)) 177), (c2, .cells (wc 8 0) E2)] [(c1, .cells (wc 8 (sSt tc n d 65).2.1 ++ wc 8 (sSt tc n d 65).2.2) 177), (c2, .cells (wc 8 (sSt tc n d 65).1) E2)] w0 := by
  have hst0 := Swap.two hne h1 h2 [c1, c2]
  have hst : St w0 [c1, c2] _ w0 := hst0
  have hs1 := lt_of_some h1
  have hs2 := lt_of_some h2
  have hZ := Lib.hid (show ∀ w, Keeps [c1, c2] w0 w → w.heap[0]? = some (.cells tc 212) from fun w k => by
    rw [k.block _ (lt_of_some hg) (by simp only [List.mem_cons, List.not_mem_nil, or_false, not_or]; exact ⟨fun e => hg1 e.symm, fun e => hg2 e.symm⟩)]; exact hg)
  have hrow := table_Row d hd
  have hdg := Lib.hid (fun y w q => table_Digit tc htc (trowI d) y w q)
  have hlt := Lib.hid (sSt_lt tc n d hn)
  have hst1 := Lib.hid (sSt_succ tc n d)
  have hin := Lib.hid (sDig_in tc d)
  have hd' := Lib.hid hd
  obtain ⟨Sf, hSf⟩ : ∃ Sf, Sf = sSt tc n d := ⟨_, rfl⟩
  have hS0 : Sf 0 = (n, 0, M - 1) := by rw [hSf]; rfl
  rw [← hSf] at hlt hst1 ⊢
  clear h1 h2 hg hg1 hg2 hst0 hd hSf
  go_enter Tryz.func117, Tryz.ntmps117
  go_wp2_with ((first | (refine kb 3 hst rfl rfl ?_; clear hst; intro b3 w hb3 hst) | (refine kb 4 hst rfl rfl ?_; clear hst; intro b4 w hb4 hst) | (refine kl hst ta25 rfl ?_) | (refine klm hst ta25 rfl ?_) | (refine ka 6 hst tz25 rfl rfl ?_; clear hst; intro b6 w hb6 hst) | (refine kt hst ta25 rfl rfl ?_; clear hst; intro w hst) | (refine ktm hst ta25 rfl rfl ?_; clear hst; intro w hst) | (refine kB (tb181_012 _ _ _) rfl ?_)); try simp only [pz, pn, sz, sc])
  go_step3
  go_wp2_with ((first | (refine kf gf127 hst (hrow) rfl rfl rfl rfl ?_; clear hst; intro w hst) | (refine kb 3 hst rfl rfl ?_; clear hst; intro b3 w hb3 hst) | (refine kb 4 hst rfl rfl ?_; clear hst; intro b4 w hb4 hst) | (refine kl hst ta25 rfl ?_) | (refine klm hst ta25 rfl ?_) | (refine ka 6 hst tz25 rfl rfl ?_; clear hst; intro b6 w hb6 hst) | (refine kt hst ta25 rfl rfl ?_; clear hst; intro w hst) | (refine ktm hst ta25 rfl rfl ?_; clear hst; intro w hst) | (refine kB (tb181_012 _ _ _) rfl ?_)); try simp only [pz, pn, sz, sc])
  go_step3
  go_wp2_with ((first | (refine kf gf127 hst (hrow) rfl rfl rfl rfl ?_; clear hst; intro w hst) | (refine kb 3 hst rfl rfl ?_; clear hst; intro b3 w hb3 hst) | (refine kb 4 hst rfl rfl ?_; clear hst; intro b4 w hb4 hst) | (refine kl hst ta25 rfl ?_) | (refine klm hst ta25 rfl ?_) | (refine ka 6 hst tz25 rfl rfl ?_; clear hst; intro b6 w hb6 hst) | (refine kt hst ta25 rfl rfl ?_; clear hst; intro w hst) | (refine ktm hst ta25 rfl rfl ?_; clear hst; intro w hst) | (refine kB (tb181_012 _ _ _) rfl ?_)); try simp only [pz, pn, sz, sc])
  go_loopw [9] (fun vi wr => ∃ (j rr : Nat), j ≤ 65 ∧ vi = .int .i64 ((j : Int) - 1) ∧ (j ≠ 65 → rr = (Sf (65 - j)).1) ∧
    St w0 [c1, c2] [(b6, .cells (wc 8 (Sf (65 - j)).1) 25), (b4, .cells (wc 8 d) 25), (c1, .cells (wc 8 (Sf (65 - j)).2.1 ++ wc 8 (Sf (65 - j)).2.2) 177), (c2, .cells (wc 8 rr) E2)] wr) (fun vi _ => (intOf vi + 1).toNat)
  case atStart => exact ⟨65, 0, by omega, rfl, fun h => absurd rfl h, by rw [Nat.sub_self, hS0]; exact hst.sub (by repeat (first | exact List.Sublist.refl _ | exact List.nil_sublist _ | refine List.Sublist.cons_cons _ ?_ | refine List.Sublist.cons _ ?_))⟩
  case round =>
    clear hst
    obtain ⟨j, rr, hj, rfl, hrr, hst⟩ := hrel
    by_cases hlt0 : 0 < j
    · obtain ⟨i, rfl⟩ : ∃ i, j = i + 1 := ⟨j - 1, by omega⟩
      obtain ⟨iv, hiv⟩ : ∃ iv : Int, iv = ((i + 1 : Nat) : Int) - 1 := ⟨_, rfl⟩
      rw [← hiv]
      have h0 : (0 : Int) ≤ iv := by omega
      have h64 : iv ≤ 64 := by omega
      have hiv' := Lib.hid hiv
      obtain ⟨k, hk⟩ : ∃ k : Nat, 65 - (i + 1) = k := ⟨_, rfl⟩
      have hk1 : 65 - i = k + 1 := by omega
      have hnext := hst1.out k
      rw [show 64 - (k : Int) = iv by omega] at hnext
      obtain ⟨s1, s2, s3⟩ := hlt.out k
      rw [hk] at hst
      generalize Sf k = s at *
      obtain ⟨l, q, s⟩ := s
      dsimp only at hst hnext s1 s2 s3
      have hsar := wide_Sar l (124 + 2 * iv) s1
      have hsml := srt_small (sarN l (clampN (124 + 2 * iv)))
      have hd1 := hdg.out (sm (sarN l (clampN (124 + 2 * iv))))
      rw [show tdig tc (trowI d) (sm (sarN l (clampN (124 + 2 * iv)))) = sDig tc d l iv from rfl] at hd1
      have hshl := wide_Shl d (2 * iv) hd'.out
      obtain ⟨g1, g2⟩ := hin.out l iv
      have htm := srt_times ((d * 2 ^ clampN (2 * iv) % M : Nat) : Int) (sDig tc d l iv) (by omega) (by omega)
      rw [toW_nat _ (Nat.mod_lt _ M_pos)] at htm
      have hsub := wide_Sub l (toW (((d * 2 ^ clampN (2 * iv) % M : Nat) : Int) * sDig tc d l iv)) s1 (toW_lt _)
      rw [show (l + M - toW (((d * 2 ^ clampN (2 * iv) % M : Nat) : Int) * sDig tc d l iv)) % M = sLeft tc d l iv from rfl] at hsub
      have hcb := fun w q1 q2 => srt_Divide_1 iv (sDig tc d l iv) g1 g2 (sLeft tc d l iv) q s rr c1 c2 s2 s3 E2 hne w q1 q2
      obtain ⟨rr1, rr2⟩ := sm_in (sarN l (clampN (124 + 2 * iv)))
      have hnx := Lib.hid hnext
      have hgf := gf118
      clear hnext s1 s2 s3 hrr hiv hlt0
      generalize sLeft tc d l iv = l' at *
      generalize sDig tc d l iv = dg at *
      generalize toW (((d * 2 ^ clampN (2 * iv) % M : Nat) : Int) * dg) = tw at *
      generalize d * 2 ^ clampN (2 * iv) % M = dx at *
      generalize sarN l (clampN (124 + 2 * iv)) = sy at *
      generalize sm sy = szv at *
      generalize decide (l < tw) = bb at *
      have z1 := sstp_size iv dg l'
      have z2 := sstp_one iv dg l'
      have hW1 : IntKind.i64.wrap (2 * iv) = 2 * iv := by rw [IntKind.wrap_i64]; omega
      go_wp2_with ((first | (refine kf gf129 hst (hsar) rfl rfl rfl rfl ?_; clear hst; intro w hst) | (refine kf gf128 hst (hsml) rfl rfl rfl rfl ?_; clear hst; intro w hst) | (refine kg gf130 hst (fun w hst => hd1 w (hZ.out w hst.keeps)) rfl rfl rfl rfl ?_; clear hst; intro w hst) | (refine kb 3 hst rfl rfl ?_; clear hst; intro b3 w hb3 hst) | (refine kb 4 hst rfl rfl ?_; clear hst; intro b4 w hb4 hst) | (refine kl hst ta25 rfl ?_) | (refine klm hst ta25 rfl ?_) | (refine ka 6 hst tz25 rfl rfl ?_; clear hst; intro b6 w hb6 hst) | (refine kt hst ta25 rfl rfl ?_; clear hst; intro w hst) | (refine ktm hst ta25 rfl rfl ?_; clear hst; intro w hst) | (refine kB (tb181_012 _ _ _) rfl ?_)); try simp only [pz, pn, sz, sc])
      refine wp_region_T 11  hst (by kernel_rfl) ?_; clear hst; intro w hst; (try dsimp only [List.length_cons, List.length_nil]); (try simp only [List.length_cons, List.length_nil, Nat.reduceAdd, Array.replicate_succ, Array.replicate_zero, List.push_toArray, List.nil_append, List.cons_append])
      refine r0 2 ?_; simp only [pz, pn, sz, sc, hW1]
      refine r0 3 ?_; simp only [pz, pn, sz, sc, hW1]
      refine r0 5 ?_; simp only [pz, pn, sz, sc, hW1]
      refine rl 0 rfl ?_ (by first | exact ylA ta25 | exact ylM ta25); simp only [pz, pn, sz, sc, hW1]
      refine rl 1 rfl ?_ (by first | exact ylA ta25 | exact ylM ta25); simp only [pz, pn, sz, sc, hW1]
      refine r1 4 ?_; (first | (refine kf gf92 hst (hshl) rfl rfl rfl rfl ?_; clear hst; intro w hst) | (refine kf gf131 hst (htm) rfl rfl rfl rfl ?_; clear hst; intro w hst) | (refine kf gf93 hst (hsub) rfl rfl rfl rfl ?_; clear hst; intro w hst) | (refine kp ?_)); (try simp only [pz, pn, sz, sc, hW1]); refine re ?_
      refine r1 6 ?_; (first | (refine kf gf92 hst (hshl) rfl rfl rfl rfl ?_; clear hst; intro w hst) | (refine kf gf131 hst (htm) rfl rfl rfl rfl ?_; clear hst; intro w hst) | (refine kf gf93 hst (hsub) rfl rfl rfl rfl ?_; clear hst; intro w hst) | (refine kp ?_)); (try simp only [pz, pn, sz, sc, hW1]); refine re ?_
      refine r1 7 ?_; (first | (refine kf gf92 hst (hshl) rfl rfl rfl rfl ?_; clear hst; intro w hst) | (refine kf gf131 hst (htm) rfl rfl rfl rfl ?_; clear hst; intro w hst) | (refine kf gf93 hst (hsub) rfl rfl rfl rfl ?_; clear hst; intro w hst) | (refine kp ?_)); (try simp only [pz, pn, sz, sc, hW1]); refine re ?_
      refine r0 8 ?_; simp only [pz, pn, sz, sc, hW1]
      refine r0 9 ?_; simp only [pz, pn, sz, sc, hW1]
      refine r0 10 ?_; simp only [pz, pn, sz, sc, hW1]
      refine r1 11 ?_; (first | (refine kt hst ta25 rfl rfl ?_; clear hst; intro w hst) | (refine ktm hst ta25 rfl rfl ?_; clear hst; intro w hst)); (try simp only [pz, pn, sz, sc, hW1]); refine re ?_
      refine rd_ ?_
      all_goals
        go_wp2_with ((first | (refine kT hgf hst (fun w hst => hcb w (hst.own _ _ (by repeat (first | exact List.Mem.head _ | refine List.Mem.tail _ ?_))) (hst.own _ _ (by repeat (first | exact List.Mem.head _ | refine List.Mem.tail _ ?_)))) rfl rfl rfl rfl ?_; clear hst; intro w hst) | (refine kb 3 hst rfl rfl ?_; clear hst; intro b3 w hb3 hst) | (refine kb 4 hst rfl rfl ?_; clear hst; intro b4 w hb4 hst) | (refine kl hst ta25 rfl ?_) | (refine klm hst ta25 rfl ?_) | (refine ka 6 hst tz25 rfl rfl ?_; clear hst; intro b6 w hb6 hst) | (refine kt hst ta25 rfl rfl ?_; clear hst; intro w hst) | (refine ktm hst ta25 rfl rfl ?_; clear hst; intro w hst) | (refine kB (tb181_012 _ _ _) rfl ?_)); try simp only [pz, pn, sz, sc])
        have hwv : iv - 1 = (i : Int) - 1 := by have := hiv'.out; omega
        refine ⟨⟨i, l', by omega, by rw [hwv], fun _ => by rw [hk1, hnx.out], ?_⟩, by have := hiv'.out; simp [intOf]; omega⟩
        rw [hk1, hnx.out]
        exact hst.sub (by repeat (first | exact List.Sublist.refl _ | exact List.nil_sublist _ | refine List.Sublist.cons_cons _ ?_ | refine List.Sublist.cons _ ?_))
    · obtain rfl : j = 0 := by omega
      have h0 : ¬ (0 : Int) ≤ ((0 : Nat) : Int) - 1 := by omega
      have hr0 := hrr (by omega)
      subst hr0
      go_wp2_with ((first | (refine kb 3 hst rfl rfl ?_; clear hst; intro b3 w hb3 hst) | (refine kb 4 hst rfl rfl ?_; clear hst; intro b4 w hb4 hst) | (refine kl hst ta25 rfl ?_) | (refine klm hst ta25 rfl ?_) | (refine ka 6 hst tz25 rfl rfl ?_; clear hst; intro b6 w hb6 hst) | (refine kt hst ta25 rfl rfl ?_; clear hst; intro w hst) | (refine ktm hst ta25 rfl rfl ?_; clear hst; intro w hst) | (refine kB (tb181_012 _ _ _) rfl ?_)); try simp only [pz, pn, sz, sc])
      exact bp_0 rfl rfl (GivesT.of hst rfl (by simp))

theorem srt_shifted (n d : Nat) (hn : n < M) (h0 : d ≠ 0) (h : d < 2 ^ 120) : Gives Tryz.prog 115 #[W n, W d] (.tuple #[W (n * 2 ^ dby d % M), W (d * 2 ^ dby d), .int .i64 (dby d : Nat)]) := by
  intro w0
  have hst := St.start [] w0
  have hnorm := srt_Norm d h0 h (small_M (by omega))
  have hshl := wide_Shl n (dby d : Nat) hn
  rw [clampN_nat _ (by unfold dby; omega)] at hshl
  clear hn h0 h
  generalize d * 2 ^ dby d = x at *
  generalize n * 2 ^ dby d % M = y at *
  generalize dby d = b at *
  go_enter Tryz.func115, Tryz.ntmps115
  go_wp2_with ((first | (refine kf gf126 hst (hnorm) rfl rfl rfl rfl ?_; clear hst; intro w hst) | (refine kf gf92 hst (hshl) rfl rfl rfl rfl ?_; clear hst; intro w hst) | (refine kb 2 hst rfl rfl ?_; clear hst; intro b2 w hb2 hst) | (refine kb 3 hst rfl rfl ?_; clear hst; intro b3 w hb3 hst) | (refine ka 4 hst tz25 rfl rfl ?_; clear hst; intro b4 w hb4 hst) | (refine ka 5 hst tz25 rfl rfl ?_; clear hst; intro b5 w hb5 hst) | (refine kl hst ta25 rfl ?_) | (refine klm hst ta25 rfl ?_) | (refine kt hst ta25 rfl rfl ?_; clear hst; intro w hst) | (refine ktm hst ta25 rfl rfl ?_; clear hst; intro w hst)); try simp only [pz, pn, sz, sc])
  refine wp_region_T 5  hst (by kernel_rfl) ?_; clear hst; intro w hst; (try dsimp only [List.length_cons, List.length_nil]); (try simp only [List.length_cons, List.length_nil, Nat.reduceAdd, Array.replicate_succ, Array.replicate_zero, List.push_toArray, List.nil_append, List.cons_append])
  refine r0 1 ?_; simp only [pz, pn, sz, sc]
  refine r0 4 ?_; simp only [pz, pn, sz, sc]
  refine rl 0 rfl ?_ (by first | exact ylA ta25 | exact ylM ta25); simp only [pz, pn, sz, sc]
  refine r2 2 3 ?_ ?_
  (first | (refine kf gf92 hst (hshl) rfl rfl rfl rfl ?_; clear hst; intro w hst) | (refine kp ?_)); (try simp only [pz, pn, sz, sc]); refine re ?_
  refine r2 3 5 ?_ ?_
  (first | (refine kl hst ta25 rfl ?_) | (refine klm hst ta25 rfl ?_)); (try simp only [pz, pn, sz, sc]); refine re ?_
  refine r1 5 ?_; (first | (refine kt hst ta25 rfl rfl ?_; clear hst; intro w hst) | (refine ktm hst ta25 rfl rfl ?_; clear hst; intro w hst)); (try simp only [pz, pn, sz, sc]); refine re ?_
  refine r1 6 ?_; (first | (refine kt hst ta25 rfl rfl ?_; clear hst; intro w hst) | (refine ktm hst ta25 rfl rfl ?_; clear hst; intro w hst)); (try simp only [pz, pn, sz, sc]); refine re ?_
  refine r0 7 ?_; simp only [pz, pn, sz, sc]
  refine rd_ ?_
  rotate_left 1
  (first | (refine kt hst ta25 rfl rfl ?_; clear hst; intro w hst) | (refine ktm hst ta25 rfl rfl ?_; clear hst; intro w hst)); (try simp only [pz, pn, sz, sc]); refine re ?_
  refine r1 3 ?_; (first | (refine kl hst ta25 rfl ?_) | (refine klm hst ta25 rfl ?_)); (try simp only [pz, pn, sz, sc]); refine re ?_
  refine r1 6 ?_; (first | (refine kt hst ta25 rfl rfl ?_; clear hst; intro w hst) | (refine ktm hst ta25 rfl rfl ?_; clear hst; intro w hst)); (try simp only [pz, pn, sz, sc]); refine re ?_
  refine r0 7 ?_; simp only [pz, pn, sz, sc]
  refine rd_ ?_
  rotate_right 1
  rotate_left 2
  (first | (refine kl hst ta25 rfl ?_) | (refine klm hst ta25 rfl ?_)); (try simp only [pz, pn, sz, sc]); refine re ?_
  refine r1 2 ?_; (first | (refine kf gf92 hst (hshl) rfl rfl rfl rfl ?_; clear hst; intro w hst) | (refine kp ?_)); (try simp only [pz, pn, sz, sc]); refine re ?_
  refine r1 5 ?_; (first | (refine kt hst ta25 rfl rfl ?_; clear hst; intro w hst) | (refine ktm hst ta25 rfl rfl ?_; clear hst; intro w hst)); (try simp only [pz, pn, sz, sc]); refine re ?_
  refine r1 6 ?_; (first | (refine kt hst ta25 rfl rfl ?_; clear hst; intro w hst) | (refine ktm hst ta25 rfl rfl ?_; clear hst; intro w hst)); (try simp only [pz, pn, sz, sc]); refine re ?_
  refine r0 7 ?_; simp only [pz, pn, sz, sc]
  refine rd_ ?_
  rotate_right 2
  all_goals
    go_wp2_with ((first | (refine kb 2 hst rfl rfl ?_; clear hst; intro b2 w hb2 hst) | (refine kb 3 hst rfl rfl ?_; clear hst; intro b3 w hb3 hst) | (refine ka 4 hst tz25 rfl rfl ?_; clear hst; intro b4 w hb4 hst) | (refine ka 5 hst tz25 rfl rfl ?_; clear hst; intro b5 w hb5 hst) | (refine kl hst ta25 rfl ?_) | (refine klm hst ta25 rfl ?_) | (refine kt hst ta25 rfl rfl ?_; clear hst; intro w hst) | (refine ktm hst ta25 rfl rfl ?_; clear hst; intro w hst)); try simp only [pz, pn, sz, sc])
    refine bp_cct rfl rfl (la hst ta25) (la hst ta25) (by rfl) ⟨?_, hst.keeps⟩
    rfl

/-- The state at the end; the quotient, the remainder. -/
def sEnd (tc : Array Value) (n d : Nat) : Nat × Nat × Nat := sSt tc (n * 2 ^ dby d % M) (d * 2 ^ dby d) 65
def srtQ (tc : Array Value) (n d : Nat) : Nat := if mayE n d = 0 then (if minusB (sEnd tc n d).1 then (sEnd tc n d).2.2 else (sEnd tc n d).2.1) else 0
def srtR (tc : Array Value) (n d : Nat) : Nat := if mayE n d = 0 then (if minusB (sEnd tc n d).1 then ((sEnd tc n d).1 + d * 2 ^ dby d) % M else (sEnd tc n d).1) / 2 ^ clampN (dby d : Nat) else 0

set_option maxHeartbeats 8000000 in
theorem srt_Divide (tc : Array Value) (htc : TabOk tc) (n d : Nat) (hn : n < M) (hd : d < M) (w0 : World) (hg : w0.heap[0]? = some (.cells tc 212)) : GivesAt Tryz.prog 113 #[W n, W d] (.tuple #[W (srtQ tc n d), W (srtR tc n d), .int .i64 (mayE n d : Nat)]) w0 := by
  have hst := St.start [] w0
  have hmay := radix2_May n d hn hd
  have hlt := lt_of_some hg
  have hZ := Lib.hid (show ∀ w, Keeps [] w0 w → w.heap[0]? = some (.cells tc 212) from fun w k => k.at hg)
  unfold srtQ srtR
  by_cases hm : mayE n d = 0
  · rw [if_pos hm, if_pos hm]
    obtain ⟨m1, m2, m3⟩ := mayE_ok hm
    rw [hm] at hmay ⊢
    have hsh := srt_shifted n d hn m1 m2
    have hDM : d * 2 ^ dby d < M := small_M (by have := (dnorm m1 m2).2; omega)
    have hrun := fun c1 c2 (hne : c2 ≠ c1) E2 w q1 q2 q3 q4 q5 => srt_run tc htc (n * 2 ^ dby d % M) (d * 2 ^ dby d) c1 c2 (Nat.mod_lt _ M_pos) hDM E2 hne w q1 q2 q3 q4 q5
    have hnew := fly_New (M - 1) rfl
    rw [W_zero] at hnew
    obtain ⟨s1, s2, s3⟩ := sSt_lt tc (n * 2 ^ dby d % M) (d * 2 ^ dby d) (Nat.mod_lt _ M_pos) 65
    unfold sEnd
    clear m1 m2 m3 hm hn hd hg htc
    generalize sSt tc (n * 2 ^ dby d % M) (d * 2 ^ dby d) 65 = s at *
    obtain ⟨l, q, r⟩ := s
    dsimp only at s1 s2 s3 hrun ⊢
    generalize n * 2 ^ dby d % M = N at *
    generalize d * 2 ^ dby d = D at *
    generalize dby d = by' at *
    generalize M - 1 = M1 at *
    have hmin := wide_Minus l s1
    have y1 : (wc 8 q ++ wc 8 r).size = 16 := by simp
    have y2 := app_one q r
    have y3 : (wc 8 0 ++ wc 8 M1).size = 16 := by simp
    have y4 := app_one 0 M1
    by_cases hb : minusB l = true
    · rw [if_pos hb, if_pos hb]
      rw [hb] at hmin
      have hadd := wide_Add l D s1 hDM
      have hshr := wide_Shr ((l + D) % M) (by' : Nat) (Nat.mod_lt _ M_pos)
      clear hb s1 s2 s3 hDM
      generalize (l + D) % M / 2 ^ clampN (by' : Nat) = z at *
      generalize (l + D) % M = l2 at *
      go_enter Tryz.func113, Tryz.ntmps113
      go_wp2_with ((first | (refine kf gf82 hst (hmay) rfl rfl rfl rfl ?_; clear hst; intro w hst) | (refine kf gf115 hst (hsh) rfl rfl rfl rfl ?_; clear hst; intro w hst) | (refine kf gf116 hst (hnew) rfl rfl rfl rfl ?_; clear hst; intro w hst) | (refine kT gf117 hst (fun w hst => hrun b9 b10 (by have q := hst.nodup; simp only [List.map_cons, List.map_nil, List.nodup_cons, List.mem_cons, List.not_mem_nil, or_false, not_or] at q; omega) _ w (hZ.out w hst.keeps) (by omega) (by omega) (hst.own _ _ (by repeat (first | exact List.Mem.head _ | refine List.Mem.tail _ ?_))) (hst.own _ _ (by repeat (first | exact List.Mem.head _ | refine List.Mem.tail _ ?_)))) rfl rfl rfl rfl ?_; clear hst; intro w hst) | (refine kf gf120 hst (hmin) rfl rfl rfl rfl ?_; clear hst; intro w hst) | (refine kf gf94 hst (hadd) rfl rfl rfl rfl ?_; clear hst; intro w hst) | (refine kf gf121 hst (hshr) rfl rfl rfl rfl ?_; clear hst; intro w hst) | (refine kb 2 hst rfl rfl ?_; clear hst; intro b2 w hb2 hst) | (refine kb 3 hst rfl rfl ?_; clear hst; intro b3 w hb3 hst) | (refine ka 4 hst tz25 rfl rfl ?_; clear hst; intro b4 w hb4 hst) | (refine ka 5 hst tz25 rfl rfl ?_; clear hst; intro b5 w hb5 hst) | (refine kl hst ta25 rfl ?_) | (refine klm hst ta25 rfl ?_) | (refine kt hst ta25 rfl rfl ?_; clear hst; intro w hst) | (refine ktm hst ta25 rfl rfl ?_; clear hst; intro w hst) | (refine ka 9 hst tz177 rfl rfl ?_; clear hst; intro b9 w hb9 hst) | (refine kt hst ta177 rfl rfl ?_; clear hst; intro w hst) | (refine ktm hst ta177 rfl rfl ?_; clear hst; intro w hst) | (refine ka 10 hst tz25 rfl rfl ?_; clear hst; intro b10 w hb10 hst) | (refine ka 11 hst tz25 rfl rfl ?_; clear hst; intro b11 w hb11 hst)); try simp only [pz, pn, sz, sc])
      refine wp_region_TV 5 [(b11, .cells (wc 8 r) 25), (b10, .cells (wc 8 z) 25)] hst (by kernel_rfl) ?_; clear hst; intro w hst; (try dsimp only [List.length_cons, List.length_nil]); (try simp only [List.length_cons, List.length_nil, Nat.reduceAdd, Array.replicate_succ, Array.replicate_zero, List.push_toArray, List.nil_append, List.cons_append])
      refine rl 0 rfl ?_ (by first | exact ylA ta25 | exact ylM ta25); simp only [pz, pn, sz, sc]
      refine rl 1 rfl ?_ (by first | exact ylA ta25 | exact ylM ta25); simp only [pz, pn, sz, sc]
      refine r1 2 ?_; (first | (refine kt hst ta25 rfl rfl ?_; clear hst; intro w hst) | (refine ktm hst ta25 rfl rfl ?_; clear hst; intro w hst)); (try simp only [pz, pn, sz, sc]); refine re ?_
      refine r1 3 ?_; (first | (refine kt hst ta25 rfl rfl ?_; clear hst; intro w hst) | (refine ktm hst ta25 rfl rfl ?_; clear hst; intro w hst)); (try simp only [pz, pn, sz, sc]); refine re ?_
      refine r0 4 ?_; simp only [pz, pn, sz, sc]
      refine rd_ ?_
      go_wp2_with ((first | (refine kb 2 hst rfl rfl ?_; clear hst; intro b2 w hb2 hst) | (refine kb 3 hst rfl rfl ?_; clear hst; intro b3 w hb3 hst) | (refine ka 4 hst tz25 rfl rfl ?_; clear hst; intro b4 w hb4 hst) | (refine ka 5 hst tz25 rfl rfl ?_; clear hst; intro b5 w hb5 hst) | (refine kl hst ta25 rfl ?_) | (refine klm hst ta25 rfl ?_) | (refine kt hst ta25 rfl rfl ?_; clear hst; intro w hst) | (refine ktm hst ta25 rfl rfl ?_; clear hst; intro w hst) | (refine ka 9 hst tz177 rfl rfl ?_; clear hst; intro b9 w hb9 hst) | (refine kt hst ta177 rfl rfl ?_; clear hst; intro w hst) | (refine ktm hst ta177 rfl rfl ?_; clear hst; intro w hst) | (refine ka 10 hst tz25 rfl rfl ?_; clear hst; intro b10 w hb10 hst) | (refine ka 11 hst tz25 rfl rfl ?_; clear hst; intro b11 w hb11 hst)); try simp only [pz, pn, sz, sc])
      refine bp_cct rfl rfl (la hst ta25) (la hst ta25) (by rfl) ⟨?_, hst.keeps⟩
      rfl
    · rw [if_neg hb, if_neg hb]
      rw [show minusB l = false by simpa using hb] at hmin
      have hshr := wide_Shr l (by' : Nat) s1
      clear hb s1 s2 s3 hDM
      generalize l / 2 ^ clampN (by' : Nat) = z at *
      go_enter Tryz.func113, Tryz.ntmps113
      go_wp2_with ((first | (refine kf gf82 hst (hmay) rfl rfl rfl rfl ?_; clear hst; intro w hst) | (refine kf gf115 hst (hsh) rfl rfl rfl rfl ?_; clear hst; intro w hst) | (refine kf gf116 hst (hnew) rfl rfl rfl rfl ?_; clear hst; intro w hst) | (refine kT gf117 hst (fun w hst => hrun b9 b10 (by have q := hst.nodup; simp only [List.map_cons, List.map_nil, List.nodup_cons, List.mem_cons, List.not_mem_nil, or_false, not_or] at q; omega) _ w (hZ.out w hst.keeps) (by omega) (by omega) (hst.own _ _ (by repeat (first | exact List.Mem.head _ | refine List.Mem.tail _ ?_))) (hst.own _ _ (by repeat (first | exact List.Mem.head _ | refine List.Mem.tail _ ?_)))) rfl rfl rfl rfl ?_; clear hst; intro w hst) | (refine kf gf120 hst (hmin) rfl rfl rfl rfl ?_; clear hst; intro w hst) | (refine kf gf121 hst (hshr) rfl rfl rfl rfl ?_; clear hst; intro w hst) | (refine kb 2 hst rfl rfl ?_; clear hst; intro b2 w hb2 hst) | (refine kb 3 hst rfl rfl ?_; clear hst; intro b3 w hb3 hst) | (refine ka 4 hst tz25 rfl rfl ?_; clear hst; intro b4 w hb4 hst) | (refine ka 5 hst tz25 rfl rfl ?_; clear hst; intro b5 w hb5 hst) | (refine kl hst ta25 rfl ?_) | (refine klm hst ta25 rfl ?_) | (refine kt hst ta25 rfl rfl ?_; clear hst; intro w hst) | (refine ktm hst ta25 rfl rfl ?_; clear hst; intro w hst) | (refine ka 9 hst tz177 rfl rfl ?_; clear hst; intro b9 w hb9 hst) | (refine kt hst ta177 rfl rfl ?_; clear hst; intro w hst) | (refine ktm hst ta177 rfl rfl ?_; clear hst; intro w hst) | (refine ka 10 hst tz25 rfl rfl ?_; clear hst; intro b10 w hb10 hst) | (refine ka 11 hst tz25 rfl rfl ?_; clear hst; intro b11 w hb11 hst)); try simp only [pz, pn, sz, sc])
      refine wp_region_TV 5 [(b11, .cells (wc 8 q) 25), (b10, .cells (wc 8 z) 25)] hst (by kernel_rfl) ?_; clear hst; intro w hst; (try dsimp only [List.length_cons, List.length_nil]); (try simp only [List.length_cons, List.length_nil, Nat.reduceAdd, Array.replicate_succ, Array.replicate_zero, List.push_toArray, List.nil_append, List.cons_append])
      refine rl 0 rfl ?_ (by first | exact ylA ta25 | exact ylM ta25); simp only [pz, pn, sz, sc]
      refine rl 1 rfl ?_ (by first | exact ylA ta25 | exact ylM ta25); simp only [pz, pn, sz, sc]
      refine r1 2 ?_; (first | (refine kt hst ta25 rfl rfl ?_; clear hst; intro w hst) | (refine ktm hst ta25 rfl rfl ?_; clear hst; intro w hst)); (try simp only [pz, pn, sz, sc]); refine re ?_
      refine r1 3 ?_; (first | (refine kt hst ta25 rfl rfl ?_; clear hst; intro w hst) | (refine ktm hst ta25 rfl rfl ?_; clear hst; intro w hst)); (try simp only [pz, pn, sz, sc]); refine re ?_
      refine r0 4 ?_; simp only [pz, pn, sz, sc]
      refine rd_ ?_
      go_wp2_with ((first | (refine kb 2 hst rfl rfl ?_; clear hst; intro b2 w hb2 hst) | (refine kb 3 hst rfl rfl ?_; clear hst; intro b3 w hb3 hst) | (refine ka 4 hst tz25 rfl rfl ?_; clear hst; intro b4 w hb4 hst) | (refine ka 5 hst tz25 rfl rfl ?_; clear hst; intro b5 w hb5 hst) | (refine kl hst ta25 rfl ?_) | (refine klm hst ta25 rfl ?_) | (refine kt hst ta25 rfl rfl ?_; clear hst; intro w hst) | (refine ktm hst ta25 rfl rfl ?_; clear hst; intro w hst) | (refine ka 9 hst tz177 rfl rfl ?_; clear hst; intro b9 w hb9 hst) | (refine kt hst ta177 rfl rfl ?_; clear hst; intro w hst) | (refine ktm hst ta177 rfl rfl ?_; clear hst; intro w hst) | (refine ka 10 hst tz25 rfl rfl ?_; clear hst; intro b10 w hb10 hst) | (refine ka 11 hst tz25 rfl rfl ?_; clear hst; intro b11 w hb11 hst)); try simp only [pz, pn, sz, sc])
      refine bp_cct rfl rfl (la hst ta25) (la hst ta25) (by rfl) ⟨?_, hst.keeps⟩
      rfl
  · rw [if_neg hm, if_neg hm]
    generalize mayE n d = e at *
    have Q0 : ((e : Int) == 0) = false := by simp; omega
    clear hm hn hd hg htc
    go_enter Tryz.func113, Tryz.ntmps113
    go_wp2_with ((first | (refine kf gf82 hst (hmay) rfl rfl rfl rfl ?_; clear hst; intro w hst) | (refine kb 2 hst rfl rfl ?_; clear hst; intro b2 w hb2 hst) | (refine kb 3 hst rfl rfl ?_; clear hst; intro b3 w hb3 hst) | (refine ka 4 hst tz25 rfl rfl ?_; clear hst; intro b4 w hb4 hst) | (refine ka 5 hst tz25 rfl rfl ?_; clear hst; intro b5 w hb5 hst) | (refine kl hst ta25 rfl ?_) | (refine klm hst ta25 rfl ?_) | (refine kt hst ta25 rfl rfl ?_; clear hst; intro w hst) | (refine ktm hst ta25 rfl rfl ?_; clear hst; intro w hst) | (refine ka 9 hst tz177 rfl rfl ?_; clear hst; intro b9 w hb9 hst) | (refine kt hst ta177 rfl rfl ?_; clear hst; intro w hst) | (refine ktm hst ta177 rfl rfl ?_; clear hst; intro w hst) | (refine ka 10 hst tz25 rfl rfl ?_; clear hst; intro b10 w hb10 hst) | (refine ka 11 hst tz25 rfl rfl ?_; clear hst; intro b11 w hb11 hst)); try simp only [pz, pn, sz, sc])
    refine bp_cct rfl rfl (la hst ta25) (la hst ta25) (by rfl) ⟨?_, hst.keeps⟩
    rw [W_zero]; rfl

theorem signed_Divide (tc : Array Value) (htc : TabOk tc) (n d : Nat) (hn : n < M) (hd : d < M) (w0 : World) (hg : w0.heap[0]? = some (.cells tc 212)) : GivesAt Tryz.prog 111 #[.agg #[], W n, W d] (.tuple #[W (srtQ tc n d), W (srtR tc n d), .int .i64 (mayE n d : Nat)]) w0 := by
  have hst := St.start [] w0
  have h := fun w q => srt_Divide tc htc n d hn hd w q
  have hZ := Lib.hid (show ∀ w, Keeps [] w0 w → w.heap[0]? = some (.cells tc 212) from fun w k => k.at hg)
  clear hg
  generalize srtQ tc n d = x at *
  generalize srtR tc n d = y at *
  generalize mayE n d = e at *
  go_enter Tryz.func111, Tryz.ntmps111
  go_wp2_with ((first | (refine kg gf113 hst (fun w hst => h w (hZ.out w hst.keeps)) rfl rfl rfl rfl ?_; clear hst; intro w hst) | (refine kb 3 hst rfl rfl ?_; clear hst; intro b3 w hb3 hst) | (refine kb 4 hst rfl rfl ?_; clear hst; intro b4 w hb4 hst) | (refine kb 5 hst rfl rfl ?_; clear hst; intro b5 w hb5 hst) | (refine ka 6 hst tz25 rfl rfl ?_; clear hst; intro b6 w hb6 hst) | (refine ka 7 hst tz25 rfl rfl ?_; clear hst; intro b7 w hb7 hst) | (refine kl hst ta25 rfl ?_) | (refine klm hst ta25 rfl ?_) | (refine kt hst ta25 rfl rfl ?_; clear hst; intro w hst) | (refine ktm hst ta25 rfl rfl ?_; clear hst; intro w hst)); try simp only [pz, pn, sz, sc])
  refine bp_cct rfl rfl (la hst ta25) (la hst ta25) (by rfl) ⟨?_, hst.keeps⟩
  rfl

end Go.Proofs.YtggchelniblipaaGreat.Rd
