/- What newton's reciprocal, guess, may, Divide answer. -/
import Derived.Test.YtggchelniblipaaGreatJ24
namespace Go.Proofs.YtggchelniblipaaGreat.Rd
open Go Go.RowKit
set_option linter.unusedVariables false
set_option linter.unusedSimpArgs false
set_option maxRecDepth 100000

set_option maxHeartbeats 4000000 in
theorem newton_reciprocal (be br : Nat) (c : Array Value) (hc : RomOk c) (hne : be ≠ br) (D : Nat) (h1 : 2 ^ 127 ≤ D) (h2 : D < 2 ^ 128) (w0 : World) (he : w0.heap[be]? = some (.cells (ptrC br) 96)) (hr : w0.heap[br]? = some (.cells c 69)) :
    GivesT Tryz.prog 166 #[.pointer (some ⟨be, 0, none⟩), W D, .int .i64 5] (W (newtonY D 5)) [(br, .cells c 69)] [(br, .cells romF 69)] w0 := by
  have hst := St.eng hne he hr
  have hlt := lt_of_some he
  have hltr := lt_of_some hr
  have hseed := fun (w : World) (h : w.heap[br]? = some (.cells c 69)) => newton_seed br c hc D h1 h2 w h
  have hrep := fun (b4 : Nat) (E : TypeId) (w : World) (hb : w.heap[b4]? = some (.cells (wc 8 D) E)) => newton_repeat (newtonY D) 5 (by omega) 170 gf170 #[.pointer (some ⟨b4, 0, none⟩)] w (fun i w' hi kp => newton_better D i h1 h2 (by omega) b4 E w' (kp.at hb))
  rw [show ((5 : Nat) : Int) = 5 from rfl] at hrep
  clear he hr hc h1 h2
  generalize romF = cf at *
  unfold ptrC at hst
  go_enter Tryz.func166, Tryz.ntmps166
  go_wp2_with ((first | (refine kb 4 hst rfl rfl ?_; clear hst; intro b4 w hb4 hst) | (refine ka 6 hst tz25 rfl rfl ?_; clear hst; intro b6 w hb6 hst) | (refine kl hst ta94 rfl ?_) | (refine klm hst ta94 rfl ?_) | (refine kl hst ta25 rfl ?_) | (refine klm hst ta25 rfl ?_) | (refine kt hst ta25 rfl rfl ?_; clear hst; intro w hst) | (refine ktm hst ta25 rfl rfl ?_; clear hst; intro w hst)); try simp only [pz, pn, sz, sc])
  refine wp_region_TV 10 [(b4, .cells (wc 8 D) 25), (be, .cells #[.pointer (some ⟨br, 0, none⟩)] 96)] hst (by kernel_rfl) ?_; clear hst; intro w hst; (try dsimp only [List.length_cons, List.length_nil]); (try simp only [List.length_cons, List.length_nil, Nat.reduceAdd, Array.replicate_succ, Array.replicate_zero, List.push_toArray, List.nil_append, List.cons_append])
  refine r0 0 ?_; simp only [pz, pn, sz, sc]
  refine r0 1 ?_; simp only [pz, pn, sz, sc]
  refine r0 2 ?_; simp only [pz, pn, sz, sc]
  refine r0 3 ?_; simp only [pz, pn, sz, sc]
  refine r0 7 ?_; simp only [pz, pn, sz, sc]
  refine rl 4 rfl ?_ (by first | exact ylA ta94 | exact ylM ta94); simp only [pz, pn, sz, sc]
  refine rl 5 rfl ?_ (by first | exact ylA ta25 | exact ylM ta25); simp only [pz, pn, sz, sc]
  refine r1 6 ?_; (first | (refine kT gf156 hst (fun w hst => hseed w (hst.own _ _ (by repeat (first | exact List.Mem.head _ | refine List.Mem.tail _ ?_)))) rfl rfl rfl rfl ?_; clear hst; intro w hst) | (refine kg gf169 hst (fun w hst => hrep b4 _ w (hst.own _ _ (by repeat (first | exact List.Mem.head _ | refine List.Mem.tail _ ?_)))) rfl rfl rfl rfl ?_; clear hst; intro w hst) | (refine kp ?_)); (try simp only [pz, pn, sz, sc]); refine re ?_
  refine r1 8 ?_; (first | (refine kT gf156 hst (fun w hst => hseed w (hst.own _ _ (by repeat (first | exact List.Mem.head _ | refine List.Mem.tail _ ?_)))) rfl rfl rfl rfl ?_; clear hst; intro w hst) | (refine kg gf169 hst (fun w hst => hrep b4 _ w (hst.own _ _ (by repeat (first | exact List.Mem.head _ | refine List.Mem.tail _ ?_)))) rfl rfl rfl rfl ?_; clear hst; intro w hst) | (refine kp ?_)); (try simp only [pz, pn, sz, sc]); refine re ?_
  refine r1 9 ?_; (first | (refine kt hst ta25 rfl rfl ?_; clear hst; intro w hst) | (refine ktm hst ta25 rfl rfl ?_; clear hst; intro w hst)); (try simp only [pz, pn, sz, sc]); refine re ?_
  refine rd_ ?_
  all_goals
    go_wp2_with ((first | (refine kb 4 hst rfl rfl ?_; clear hst; intro b4 w hb4 hst) | (refine ka 6 hst tz25 rfl rfl ?_; clear hst; intro b6 w hb6 hst) | (refine kl hst ta94 rfl ?_) | (refine klm hst ta94 rfl ?_) | (refine kl hst ta25 rfl ?_) | (refine klm hst ta25 rfl ?_) | (refine kt hst ta25 rfl rfl ?_; clear hst; intro w hst) | (refine ktm hst ta25 rfl rfl ?_; clear hst; intro w hst)); try simp only [pz, pn, sz, sc])
    exact bp_c rfl rfl (la hst ta25) ⟨rfl, hst.keeps, own_one (hst.own _ _ (by simp))⟩

/-- The guess for a quotient of what is shifted up. -/
def newtonG (N D : Nat) : Nat := N * newtonY D 5 / (K * R)

set_option maxHeartbeats 4000000 in
theorem newton_guess_ (be br : Nat) (c : Array Value) (hc : RomOk c) (hne : be ≠ br) (n d : Nat) (hn : n < M) (hd0 : d ≠ 0) (hd : d < 2 ^ 120) (hnd : n < d * 2 ^ 128) (w0 : World) (he : w0.heap[be]? = some (.cells (ptrC br) 96)) (hr : w0.heap[br]? = some (.cells c 69)) :
    GivesT Tryz.prog 159 #[.pointer (some ⟨be, 0, none⟩), W n, W d] (W (newtonG (n * 2 ^ dby d) (d * 2 ^ dby d))) [(br, .cells c 69)] [(br, .cells romF 69)] w0 := by
  have hst := St.eng hne he hr
  have hlt := lt_of_some he
  have hltr := lt_of_some hr
  have hnorm := srt_Norm d hd0 hd (small_M (by omega))
  obtain ⟨d1, d2⟩ := dnorm hd0 hd
  have hN : n * 2 ^ dby d < d * 2 ^ dby d * K := by
    have := Nat.mul_lt_mul_of_pos_right hnd (show 0 < 2 ^ dby d from Nat.pow_pos (by omega))
    rw [show K = 2 ^ 128 from rfl, Nat.mul_assoc d, Nat.mul_comm (2 ^ dby d), ← Nat.mul_assoc]; exact this
  have hN2 : n * 2 ^ dby d < 2 ^ 256 := Nat.lt_of_lt_of_le hN (by
    rw [show (2 : Nat) ^ 256 = 2 ^ 128 * K by decide]
    exact Nat.mul_le_mul_right _ (Nat.le_of_lt d2))
  have hshl := wide_Shl n (dby d : Nat) hn
  rw [clampN_nat _ (by unfold dby; omega), Nat.mod_eq_of_lt (small_M (by omega))] at hshl
  have hrec := fun (w : World) (q1 : w.heap[be]? = some (.cells (ptrC br) 96)) (q2 : w.heap[br]? = some (.cells c 69)) => newton_reciprocal be br c hc hne _ d1 d2 w q1 q2
  have hlast : newtonG (n * 2 ^ dby d) (d * 2 ^ dby d) ≤ n * 2 ^ dby d / (d * 2 ^ dby d) + 1 := (newton_last _ _ d1 d2 hN).1
  have hqq : n * 2 ^ dby d / (d * 2 ^ dby d) < 2 ^ 128 := by
    rw [Nat.div_lt_iff_lt_mul (by omega)]; exact Nat.lt_of_lt_of_eq hN (Nat.mul_comm _ _)
  have hG : newtonG (n * 2 ^ dby d) (d * 2 ^ dby d) < M := small_M (by omega)
  clear hlast hqq
  have hyM : newtonY (d * 2 ^ dby d) 5 < M := small_M (by have := (newtonY_small _ d1 d2 5 (by omega)).2; omega)
  have ht : Gives Tryz.prog 165 #[W (n * 2 ^ dby d), W (newtonY (d * 2 ^ dby d) 5), .int .i64 288] (W (newtonG (n * 2 ^ dby d) (d * 2 ^ dby d))) := by
    obtain ⟨x, hx⟩ : ∃ x : Nat, x = 288 := ⟨_, rfl⟩
    have e : 2 ^ x = K * R := (show ∀ y z, x = y + z → 2 ^ x = 2 ^ y * 2 ^ z from fun y z h => by rw [h, Nat.pow_add]) 128 160 (by omega)
    have := fix_Times (n * 2 ^ dby d) (newtonY (d * 2 ^ dby d) 5) x (small_M (by omega)) hyM (by omega) (by rw [e]; exact hG)
    rw [e, show (x : Int) = 288 by omega] at this
    exact this
  clear he hr hc d1 d2 hN hN2 hG hyM hn hd hd0 hnd
  generalize newtonG (n * 2 ^ dby d) (d * 2 ^ dby d) = g at *
  generalize newtonY (d * 2 ^ dby d) 5 = y at *
  generalize n * 2 ^ dby d = N at *
  generalize d * 2 ^ dby d = D at *
  generalize dby d = b at *
  generalize romF = cf at *
  generalize ptrC br = pc at *
  go_enter Tryz.func159, Tryz.ntmps159
  go_wp2_with ((first | (refine kf gf126 hst (hnorm) rfl rfl rfl rfl ?_; clear hst; intro w hst) | (refine kb 4 hst rfl rfl ?_; clear hst; intro b4 w hb4 hst) | (refine kb 5 hst rfl rfl ?_; clear hst; intro b5 w hb5 hst) | (refine ka 6 hst tz25 rfl rfl ?_; clear hst; intro b6 w hb6 hst) | (refine kl hst ta25 rfl ?_) | (refine klm hst ta25 rfl ?_) | (refine ka 7 hst tz25 rfl rfl ?_; clear hst; intro b7 w hb7 hst) | (refine kt hst ta25 rfl rfl ?_; clear hst; intro w hst) | (refine ktm hst ta25 rfl rfl ?_; clear hst; intro w hst)); try simp only [pz, pn, sz, sc])
  refine wp_region_TV 8 [(b7, .cells (wc 8 D) 25), (b4, .cells (wc 8 n) 25)] hst (by kernel_rfl) ?_; clear hst; intro w hst; (try dsimp only [List.length_cons, List.length_nil]); (try simp only [List.length_cons, List.length_nil, Nat.reduceAdd, Array.replicate_succ, Array.replicate_zero, List.push_toArray, List.nil_append, List.cons_append])
  refine r0 1 ?_; simp only [pz, pn, sz, sc]
  refine r0 3 ?_; simp only [pz, pn, sz, sc]
  refine rl 0 rfl ?_ (by first | exact ylA ta25 | exact ylM ta25); simp only [pz, pn, sz, sc]
  refine rl 4 rfl ?_ (by first | exact ylA ta25 | exact ylM ta25); simp only [pz, pn, sz, sc]
  refine r1 2 ?_; (first | (refine kf gf92 hst (hshl) rfl rfl rfl rfl ?_; clear hst; intro w hst) | (refine kT gf166 hst (fun w hst => hrec w (hst.own _ _ (by repeat (first | exact List.Mem.head _ | refine List.Mem.tail _ ?_))) (hst.own _ _ (by repeat (first | exact List.Mem.head _ | refine List.Mem.tail _ ?_)))) rfl rfl rfl rfl ?_; clear hst; intro w hst) | (refine kf gf165 hst (ht) rfl rfl rfl rfl ?_; clear hst; intro w hst) | (refine kp ?_)); (try simp only [pz, pn, sz, sc]); refine re ?_
  refine r1 5 ?_; (first | (refine kf gf92 hst (hshl) rfl rfl rfl rfl ?_; clear hst; intro w hst) | (refine kT gf166 hst (fun w hst => hrec w (hst.own _ _ (by repeat (first | exact List.Mem.head _ | refine List.Mem.tail _ ?_))) (hst.own _ _ (by repeat (first | exact List.Mem.head _ | refine List.Mem.tail _ ?_)))) rfl rfl rfl rfl ?_; clear hst; intro w hst) | (refine kf gf165 hst (ht) rfl rfl rfl rfl ?_; clear hst; intro w hst) | (refine kp ?_)); (try simp only [pz, pn, sz, sc]); refine re ?_
  refine r1 6 ?_; (first | (refine kf gf92 hst (hshl) rfl rfl rfl rfl ?_; clear hst; intro w hst) | (refine kT gf166 hst (fun w hst => hrec w (hst.own _ _ (by repeat (first | exact List.Mem.head _ | refine List.Mem.tail _ ?_))) (hst.own _ _ (by repeat (first | exact List.Mem.head _ | refine List.Mem.tail _ ?_)))) rfl rfl rfl rfl ?_; clear hst; intro w hst) | (refine kf gf165 hst (ht) rfl rfl rfl rfl ?_; clear hst; intro w hst) | (refine kp ?_)); (try simp only [pz, pn, sz, sc]); refine re ?_
  refine r1 7 ?_; (first | (refine kt hst ta25 rfl rfl ?_; clear hst; intro w hst) | (refine ktm hst ta25 rfl rfl ?_; clear hst; intro w hst)); (try simp only [pz, pn, sz, sc]); refine re ?_
  refine rd_ ?_
  go_wp2_with ((first | (refine kb 4 hst rfl rfl ?_; clear hst; intro b4 w hb4 hst) | (refine kb 5 hst rfl rfl ?_; clear hst; intro b5 w hb5 hst) | (refine ka 6 hst tz25 rfl rfl ?_; clear hst; intro b6 w hb6 hst) | (refine kl hst ta25 rfl ?_) | (refine klm hst ta25 rfl ?_) | (refine ka 7 hst tz25 rfl rfl ?_; clear hst; intro b7 w hb7 hst) | (refine kt hst ta25 rfl rfl ?_; clear hst; intro w hst) | (refine ktm hst ta25 rfl rfl ?_; clear hst; intro w hst)); try simp only [pz, pn, sz, sc])
  exact bp_c rfl rfl (la hst ta25) ⟨rfl, hst.keeps, own_one (hst.own _ _ (by simp))⟩

theorem newton_may (be n d : Nat) (hn : n < M) (hd : d < M) : Gives Tryz.prog 157 #[.pointer (some ⟨be, 0, none⟩), W n, W d] (.int .i64 (mayE n d : Nat)) := by
  intro w0
  have hst := St.start [] w0
  have h := radix2_May n d hn hd
  generalize mayE n d = e at *
  go_enter Tryz.func157, Tryz.ntmps157
  go_wp2_with ((first | (refine kf gf82 hst (h) rfl rfl rfl rfl ?_; clear hst; intro w hst) | (refine kb 4 hst rfl rfl ?_; clear hst; intro b4 w hb4 hst) | (refine kb 5 hst rfl rfl ?_; clear hst; intro b5 w hb5 hst) | (refine kl hst ta25 rfl ?_) | (refine klm hst ta25 rfl ?_)); try simp only [pz, pn, sz, sc])
  refine bp_t rfl rfl (by rfl) ⟨?_, hst.keeps⟩
  rfl

theorem St.choose {w0 w : World} {S : List Nat} {L L' : List (Nat × Obj)} (h : St w0 S L w) (hn : (L'.map Prod.fst).Nodup) (hs : ∀ x ∈ L', x ∈ L) : St w0 S L' w := ⟨h.keeps, fun b o hb => h.own b o (hs _ hb), hn⟩

set_option maxHeartbeats 8000000 in
theorem newton_Divide (be br : Nat) (c : Array Value) (hc : RomOk c) (hne : be ≠ br) (n d : Nat) (hn : n < M) (hd : d < M) (w0 : World) (he : w0.heap[be]? = some (.cells (ptrC br) 96)) (hr : w0.heap[br]? = some (.cells c 69)) :
    GivesT Tryz.prog 155 #[.pointer (some ⟨be, 0, none⟩), W n, W d] (.tuple #[W (quoQ n d), W (quoM n d), .int .i64 (mayE n d : Nat)]) [(br, .cells c 69)] [(br, .cells (romD n d c) 69)] w0 := by
  have hst := St.eng hne he hr
  have hlt := lt_of_some he
  have hltr := lt_of_some hr
  have hmay := newton_may be n d hn hd
  unfold quoQ quoM romD
  by_cases hm : mayE n d = 0
  · rw [if_pos hm, if_pos hm, if_pos hm]
    obtain ⟨m1, m2, m3⟩ := mayE_ok hm
    obtain ⟨d1, d2⟩ := dnorm m1 m2
    have hN : n * 2 ^ dby d < d * 2 ^ dby d * K := by
      have := Nat.mul_lt_mul_of_pos_right m3 (show 0 < 2 ^ dby d from Nat.pow_pos (by omega))
      rw [show K = 2 ^ 128 from rfl, Nat.mul_assoc d, Nat.mul_comm (2 ^ dby d), ← Nat.mul_assoc]; exact this
    have hlast := newton_last _ _ d1 d2 hN
    rw [Nat.mul_div_mul_right _ _ (show 0 < 2 ^ dby d from Nat.pow_pos (by decide))] at hlast
    have hfix := fix_Quotient n d (newtonG (n * 2 ^ dby d) (d * 2 ^ dby d)) 4 hn m1 m2 m3 hlast.1 hlast.2 (by decide) (by decide)
    have hgu := fun (w : World) (q1 : w.heap[be]? = some (.cells (ptrC br) 96)) (q2 : w.heap[br]? = some (.cells c 69)) => newton_guess_ be br c hc hne n d hn m1 m2 m3 w q1 q2
    rw [hm] at hmay ⊢
    clear m1 m2 m3 d1 d2 hN hlast hm hc he hr hn hd
    generalize off (newtonG (n * 2 ^ dby d) (d * 2 ^ dby d)) (n / d) = x at *
    generalize newtonG (n * 2 ^ dby d) (d * 2 ^ dby d) = g at *
    generalize n / d = q at *
    generalize n % d = r at *
    generalize romF = cf at *
    generalize ptrC br = pc at *
    go_enter Tryz.func155, Tryz.ntmps155
    go_wp2_with ((first | (refine kf gf157 hst (hmay) rfl rfl rfl rfl ?_; clear hst; intro w hst) | (refine kb 4 hst rfl rfl ?_; clear hst; intro b4 w hb4 hst) | (refine kb 5 hst rfl rfl ?_; clear hst; intro b5 w hb5 hst) | (refine ka 6 hst tz25 rfl rfl ?_; clear hst; intro b6 w hb6 hst) | (refine ka 7 hst tz25 rfl rfl ?_; clear hst; intro b7 w hb7 hst) | (refine kl hst ta25 rfl ?_) | (refine klm hst ta25 rfl ?_) | (refine kt hst ta25 rfl rfl ?_; clear hst; intro w hst) | (refine ktm hst ta25 rfl rfl ?_; clear hst; intro w hst) | (refine ka 10 hst tz25 rfl rfl ?_; clear hst; intro b10 w hb10 hst) | (refine ka 11 hst tz25 rfl rfl ?_; clear hst; intro b11 w hb11 hst)); try simp only [pz, pn, sz, sc])
    refine wp_region_TV 18 [(b5, .cells (wc 8 d) 25), (b4, .cells (wc 8 n) 25)] hst (by kernel_rfl) ?_; clear hst; intro w hst; (try dsimp only [List.length_cons, List.length_nil]); (try simp only [List.length_cons, List.length_nil, Nat.reduceAdd, Array.replicate_succ, Array.replicate_zero, List.push_toArray, List.nil_append, List.cons_append])
    refine r0 2 ?_; simp only [pz, pn, sz, sc]
    refine rl 0 rfl ?_ (by first | exact ylA ta25 | exact ylM ta25); simp only [pz, pn, sz, sc]
    refine rl 1 rfl ?_ (by first | exact ylA ta25 | exact ylM ta25); simp only [pz, pn, sz, sc]
    refine rl 3 rfl ?_ (by first | exact ylA ta25 | exact ylM ta25); simp only [pz, pn, sz, sc]
    refine rl 4 rfl ?_ (by first | exact ylA ta25 | exact ylM ta25); simp only [pz, pn, sz, sc]
    refine r3 5 12 13 ?_ ?_ ?_
    (first | (refine kT gf159 hst (fun w hst => hgu w (hst.own _ _ (by repeat (first | exact List.Mem.head _ | refine List.Mem.tail _ ?_))) (hst.own _ _ (by repeat (first | exact List.Mem.head _ | refine List.Mem.tail _ ?_)))) rfl rfl rfl rfl ?_; clear hst; intro w hst) | (refine kf gf158 hst (hfix) rfl rfl rfl rfl ?_; clear hst; intro w hst) | (refine kp ?_)); (try simp only [pz, pn, sz, sc]); refine re ?_
    refine r3 6 12 13 ?_ ?_ ?_
    (first | (refine kT gf159 hst (fun w hst => hgu w (hst.own _ _ (by repeat (first | exact List.Mem.head _ | refine List.Mem.tail _ ?_))) (hst.own _ _ (by repeat (first | exact List.Mem.head _ | refine List.Mem.tail _ ?_)))) rfl rfl rfl rfl ?_; clear hst; intro w hst) | (refine kf gf158 hst (hfix) rfl rfl rfl rfl ?_; clear hst; intro w hst) | (refine kp ?_)); (try simp only [pz, pn, sz, sc]); refine re ?_
    refine r0 7 ?_; simp only [pz, pn, sz, sc]
    refine r0 8 ?_; simp only [pz, pn, sz, sc]
    refine r0 9 ?_; simp only [pz, pn, sz, sc]
    refine r0 10 ?_; simp only [pz, pn, sz, sc]
    refine r0 11 ?_; simp only [pz, pn, sz, sc]
    refine r2 12 13 ?_ ?_
    (refine ka 10 hst tz25 rfl rfl ?_; clear hst; intro b10 w hb10 hst); (try simp only [pz, pn, sz, sc]); refine re ?_
    refine r1 13 ?_; (refine ka 11 hst tz25 rfl rfl ?_; clear hst; intro b11 w hb11 hst); (try simp only [pz, pn, sz, sc]); refine re ?_
    refine r1 14 ?_; (first | (refine kt hst ta25 rfl rfl ?_; clear hst; intro w hst) | (refine ktm hst ta25 rfl rfl ?_; clear hst; intro w hst)); (try simp only [pz, pn, sz, sc]); refine re ?_
    refine r1 15 ?_; (first | (refine kt hst ta25 rfl rfl ?_; clear hst; intro w hst) | (refine ktm hst ta25 rfl rfl ?_; clear hst; intro w hst)); (try simp only [pz, pn, sz, sc]); refine re ?_
    refine r0 16 ?_; simp only [pz, pn, sz, sc]
    refine r0 17 ?_; simp only [pz, pn, sz, sc]
    refine rd_ ?_
    rotate_left 1
    (refine ka 11 hst tz25 rfl rfl ?_; clear hst; intro b11 w hb11 hst); (try simp only [pz, pn, sz, sc]); refine re ?_
    refine r1 12 ?_; (refine ka 10 hst tz25 rfl rfl ?_; clear hst; intro b10 w hb10 hst); (try simp only [pz, pn, sz, sc]); refine re ?_
    refine r1 14 ?_; (first | (refine kt hst ta25 rfl rfl ?_; clear hst; intro w hst) | (refine ktm hst ta25 rfl rfl ?_; clear hst; intro w hst)); (try simp only [pz, pn, sz, sc]); refine re ?_
    refine r1 15 ?_; (first | (refine kt hst ta25 rfl rfl ?_; clear hst; intro w hst) | (refine ktm hst ta25 rfl rfl ?_; clear hst; intro w hst)); (try simp only [pz, pn, sz, sc]); refine re ?_
    refine r0 16 ?_; simp only [pz, pn, sz, sc]
    refine r0 17 ?_; simp only [pz, pn, sz, sc]
    refine rd_ ?_
    rotate_right 1
    rotate_left 2
    (refine ka 10 hst tz25 rfl rfl ?_; clear hst; intro b10 w hb10 hst); (try simp only [pz, pn, sz, sc]); refine re ?_
    refine r2 6 13 ?_ ?_
    (first | (refine kT gf159 hst (fun w hst => hgu w (hst.own _ _ (by repeat (first | exact List.Mem.head _ | refine List.Mem.tail _ ?_))) (hst.own _ _ (by repeat (first | exact List.Mem.head _ | refine List.Mem.tail _ ?_)))) rfl rfl rfl rfl ?_; clear hst; intro w hst) | (refine kf gf158 hst (hfix) rfl rfl rfl rfl ?_; clear hst; intro w hst) | (refine kp ?_)); (try simp only [pz, pn, sz, sc]); refine re ?_
    refine r0 7 ?_; simp only [pz, pn, sz, sc]
    refine r0 8 ?_; simp only [pz, pn, sz, sc]
    refine r0 9 ?_; simp only [pz, pn, sz, sc]
    refine r0 10 ?_; simp only [pz, pn, sz, sc]
    refine r0 11 ?_; simp only [pz, pn, sz, sc]
    refine r1 13 ?_; (refine ka 11 hst tz25 rfl rfl ?_; clear hst; intro b11 w hb11 hst); (try simp only [pz, pn, sz, sc]); refine re ?_
    refine r1 14 ?_; (first | (refine kt hst ta25 rfl rfl ?_; clear hst; intro w hst) | (refine ktm hst ta25 rfl rfl ?_; clear hst; intro w hst)); (try simp only [pz, pn, sz, sc]); refine re ?_
    refine r1 15 ?_; (first | (refine kt hst ta25 rfl rfl ?_; clear hst; intro w hst) | (refine ktm hst ta25 rfl rfl ?_; clear hst; intro w hst)); (try simp only [pz, pn, sz, sc]); refine re ?_
    refine r0 16 ?_; simp only [pz, pn, sz, sc]
    refine r0 17 ?_; simp only [pz, pn, sz, sc]
    refine rd_ ?_
    rotate_left 1
    (refine ka 11 hst tz25 rfl rfl ?_; clear hst; intro b11 w hb11 hst); (try simp only [pz, pn, sz, sc]); refine re ?_
    refine r1 6 ?_; (first | (refine kT gf159 hst (fun w hst => hgu w (hst.own _ _ (by repeat (first | exact List.Mem.head _ | refine List.Mem.tail _ ?_))) (hst.own _ _ (by repeat (first | exact List.Mem.head _ | refine List.Mem.tail _ ?_)))) rfl rfl rfl rfl ?_; clear hst; intro w hst) | (refine kf gf158 hst (hfix) rfl rfl rfl rfl ?_; clear hst; intro w hst) | (refine kp ?_)); (try simp only [pz, pn, sz, sc]); refine re ?_
    refine r0 7 ?_; simp only [pz, pn, sz, sc]
    refine r0 8 ?_; simp only [pz, pn, sz, sc]
    refine r0 9 ?_; simp only [pz, pn, sz, sc]
    refine r0 10 ?_; simp only [pz, pn, sz, sc]
    refine r0 11 ?_; simp only [pz, pn, sz, sc]
    refine r1 14 ?_; (first | (refine kt hst ta25 rfl rfl ?_; clear hst; intro w hst) | (refine ktm hst ta25 rfl rfl ?_; clear hst; intro w hst)); (try simp only [pz, pn, sz, sc]); refine re ?_
    refine r1 15 ?_; (first | (refine kt hst ta25 rfl rfl ?_; clear hst; intro w hst) | (refine ktm hst ta25 rfl rfl ?_; clear hst; intro w hst)); (try simp only [pz, pn, sz, sc]); refine re ?_
    refine r0 16 ?_; simp only [pz, pn, sz, sc]
    refine r0 17 ?_; simp only [pz, pn, sz, sc]
    refine rd_ ?_
    rotate_right 1
    rotate_left 2
    (refine ka 11 hst tz25 rfl rfl ?_; clear hst; intro b11 w hb11 hst); (try simp only [pz, pn, sz, sc]); refine re ?_
    refine r2 6 12 ?_ ?_
    (first | (refine kT gf159 hst (fun w hst => hgu w (hst.own _ _ (by repeat (first | exact List.Mem.head _ | refine List.Mem.tail _ ?_))) (hst.own _ _ (by repeat (first | exact List.Mem.head _ | refine List.Mem.tail _ ?_)))) rfl rfl rfl rfl ?_; clear hst; intro w hst) | (refine kf gf158 hst (hfix) rfl rfl rfl rfl ?_; clear hst; intro w hst) | (refine kp ?_)); (try simp only [pz, pn, sz, sc]); refine re ?_
    refine r0 7 ?_; simp only [pz, pn, sz, sc]
    refine r0 8 ?_; simp only [pz, pn, sz, sc]
    refine r0 9 ?_; simp only [pz, pn, sz, sc]
    refine r0 10 ?_; simp only [pz, pn, sz, sc]
    refine r0 11 ?_; simp only [pz, pn, sz, sc]
    refine r1 12 ?_; (refine ka 10 hst tz25 rfl rfl ?_; clear hst; intro b10 w hb10 hst); (try simp only [pz, pn, sz, sc]); refine re ?_
    refine r1 14 ?_; (first | (refine kt hst ta25 rfl rfl ?_; clear hst; intro w hst) | (refine ktm hst ta25 rfl rfl ?_; clear hst; intro w hst)); (try simp only [pz, pn, sz, sc]); refine re ?_
    refine r1 15 ?_; (first | (refine kt hst ta25 rfl rfl ?_; clear hst; intro w hst) | (refine ktm hst ta25 rfl rfl ?_; clear hst; intro w hst)); (try simp only [pz, pn, sz, sc]); refine re ?_
    refine r0 16 ?_; simp only [pz, pn, sz, sc]
    refine r0 17 ?_; simp only [pz, pn, sz, sc]
    refine rd_ ?_
    rotate_left 1
    (refine ka 10 hst tz25 rfl rfl ?_; clear hst; intro b10 w hb10 hst); (try simp only [pz, pn, sz, sc]); refine re ?_
    refine r1 6 ?_; (first | (refine kT gf159 hst (fun w hst => hgu w (hst.own _ _ (by repeat (first | exact List.Mem.head _ | refine List.Mem.tail _ ?_))) (hst.own _ _ (by repeat (first | exact List.Mem.head _ | refine List.Mem.tail _ ?_)))) rfl rfl rfl rfl ?_; clear hst; intro w hst) | (refine kf gf158 hst (hfix) rfl rfl rfl rfl ?_; clear hst; intro w hst) | (refine kp ?_)); (try simp only [pz, pn, sz, sc]); refine re ?_
    refine r0 7 ?_; simp only [pz, pn, sz, sc]
    refine r0 8 ?_; simp only [pz, pn, sz, sc]
    refine r0 9 ?_; simp only [pz, pn, sz, sc]
    refine r0 10 ?_; simp only [pz, pn, sz, sc]
    refine r0 11 ?_; simp only [pz, pn, sz, sc]
    refine r1 14 ?_; (first | (refine kt hst ta25 rfl rfl ?_; clear hst; intro w hst) | (refine ktm hst ta25 rfl rfl ?_; clear hst; intro w hst)); (try simp only [pz, pn, sz, sc]); refine re ?_
    refine r1 15 ?_; (first | (refine kt hst ta25 rfl rfl ?_; clear hst; intro w hst) | (refine ktm hst ta25 rfl rfl ?_; clear hst; intro w hst)); (try simp only [pz, pn, sz, sc]); refine re ?_
    refine r0 16 ?_; simp only [pz, pn, sz, sc]
    refine r0 17 ?_; simp only [pz, pn, sz, sc]
    refine rd_ ?_
    rotate_right 1
    rotate_right 4
    rotate_left 6
    (refine ka 10 hst tz25 rfl rfl ?_; clear hst; intro b10 w hb10 hst); (try simp only [pz, pn, sz, sc]); refine re ?_
    refine r2 5 13 ?_ ?_
    (first | (refine kT gf159 hst (fun w hst => hgu w (hst.own _ _ (by repeat (first | exact List.Mem.head _ | refine List.Mem.tail _ ?_))) (hst.own _ _ (by repeat (first | exact List.Mem.head _ | refine List.Mem.tail _ ?_)))) rfl rfl rfl rfl ?_; clear hst; intro w hst) | (refine kf gf158 hst (hfix) rfl rfl rfl rfl ?_; clear hst; intro w hst) | (refine kp ?_)); (try simp only [pz, pn, sz, sc]); refine re ?_
    refine r2 6 13 ?_ ?_
    (first | (refine kT gf159 hst (fun w hst => hgu w (hst.own _ _ (by repeat (first | exact List.Mem.head _ | refine List.Mem.tail _ ?_))) (hst.own _ _ (by repeat (first | exact List.Mem.head _ | refine List.Mem.tail _ ?_)))) rfl rfl rfl rfl ?_; clear hst; intro w hst) | (refine kf gf158 hst (hfix) rfl rfl rfl rfl ?_; clear hst; intro w hst) | (refine kp ?_)); (try simp only [pz, pn, sz, sc]); refine re ?_
    refine r0 7 ?_; simp only [pz, pn, sz, sc]
    refine r0 8 ?_; simp only [pz, pn, sz, sc]
    refine r0 9 ?_; simp only [pz, pn, sz, sc]
    refine r0 10 ?_; simp only [pz, pn, sz, sc]
    refine r0 11 ?_; simp only [pz, pn, sz, sc]
    refine r1 13 ?_; (refine ka 11 hst tz25 rfl rfl ?_; clear hst; intro b11 w hb11 hst); (try simp only [pz, pn, sz, sc]); refine re ?_
    refine r1 14 ?_; (first | (refine kt hst ta25 rfl rfl ?_; clear hst; intro w hst) | (refine ktm hst ta25 rfl rfl ?_; clear hst; intro w hst)); (try simp only [pz, pn, sz, sc]); refine re ?_
    refine r1 15 ?_; (first | (refine kt hst ta25 rfl rfl ?_; clear hst; intro w hst) | (refine ktm hst ta25 rfl rfl ?_; clear hst; intro w hst)); (try simp only [pz, pn, sz, sc]); refine re ?_
    refine r0 16 ?_; simp only [pz, pn, sz, sc]
    refine r0 17 ?_; simp only [pz, pn, sz, sc]
    refine rd_ ?_
    rotate_left 1
    (refine ka 11 hst tz25 rfl rfl ?_; clear hst; intro b11 w hb11 hst); (try simp only [pz, pn, sz, sc]); refine re ?_
    refine r1 6 ?_; (first | (refine kT gf159 hst (fun w hst => hgu w (hst.own _ _ (by repeat (first | exact List.Mem.head _ | refine List.Mem.tail _ ?_))) (hst.own _ _ (by repeat (first | exact List.Mem.head _ | refine List.Mem.tail _ ?_)))) rfl rfl rfl rfl ?_; clear hst; intro w hst) | (refine kf gf158 hst (hfix) rfl rfl rfl rfl ?_; clear hst; intro w hst) | (refine kp ?_)); (try simp only [pz, pn, sz, sc]); refine re ?_
    refine r0 7 ?_; simp only [pz, pn, sz, sc]
    refine r0 8 ?_; simp only [pz, pn, sz, sc]
    refine r0 9 ?_; simp only [pz, pn, sz, sc]
    refine r0 10 ?_; simp only [pz, pn, sz, sc]
    refine r0 11 ?_; simp only [pz, pn, sz, sc]
    refine r1 14 ?_; (first | (refine kt hst ta25 rfl rfl ?_; clear hst; intro w hst) | (refine ktm hst ta25 rfl rfl ?_; clear hst; intro w hst)); (try simp only [pz, pn, sz, sc]); refine re ?_
    refine r1 15 ?_; (first | (refine kt hst ta25 rfl rfl ?_; clear hst; intro w hst) | (refine ktm hst ta25 rfl rfl ?_; clear hst; intro w hst)); (try simp only [pz, pn, sz, sc]); refine re ?_
    refine r0 16 ?_; simp only [pz, pn, sz, sc]
    refine r0 17 ?_; simp only [pz, pn, sz, sc]
    refine rd_ ?_
    rotate_right 1
    rotate_left 2
    (refine ka 11 hst tz25 rfl rfl ?_; clear hst; intro b11 w hb11 hst); (try simp only [pz, pn, sz, sc]); refine re ?_
    refine r1 5 ?_; (first | (refine kT gf159 hst (fun w hst => hgu w (hst.own _ _ (by repeat (first | exact List.Mem.head _ | refine List.Mem.tail _ ?_))) (hst.own _ _ (by repeat (first | exact List.Mem.head _ | refine List.Mem.tail _ ?_)))) rfl rfl rfl rfl ?_; clear hst; intro w hst) | (refine kf gf158 hst (hfix) rfl rfl rfl rfl ?_; clear hst; intro w hst) | (refine kp ?_)); (try simp only [pz, pn, sz, sc]); refine re ?_
    refine r1 6 ?_; (first | (refine kT gf159 hst (fun w hst => hgu w (hst.own _ _ (by repeat (first | exact List.Mem.head _ | refine List.Mem.tail _ ?_))) (hst.own _ _ (by repeat (first | exact List.Mem.head _ | refine List.Mem.tail _ ?_)))) rfl rfl rfl rfl ?_; clear hst; intro w hst) | (refine kf gf158 hst (hfix) rfl rfl rfl rfl ?_; clear hst; intro w hst) | (refine kp ?_)); (try simp only [pz, pn, sz, sc]); refine re ?_
    refine r0 7 ?_; simp only [pz, pn, sz, sc]
    refine r0 8 ?_; simp only [pz, pn, sz, sc]
    refine r0 9 ?_; simp only [pz, pn, sz, sc]
    refine r0 10 ?_; simp only [pz, pn, sz, sc]
    refine r0 11 ?_; simp only [pz, pn, sz, sc]
    refine r1 14 ?_; (first | (refine kt hst ta25 rfl rfl ?_; clear hst; intro w hst) | (refine ktm hst ta25 rfl rfl ?_; clear hst; intro w hst)); (try simp only [pz, pn, sz, sc]); refine re ?_
    refine r1 15 ?_; (first | (refine kt hst ta25 rfl rfl ?_; clear hst; intro w hst) | (refine ktm hst ta25 rfl rfl ?_; clear hst; intro w hst)); (try simp only [pz, pn, sz, sc]); refine re ?_
    refine r0 16 ?_; simp only [pz, pn, sz, sc]
    refine r0 17 ?_; simp only [pz, pn, sz, sc]
    refine rd_ ?_
    rotate_right 2
    rotate_left 3
    (refine ka 11 hst tz25 rfl rfl ?_; clear hst; intro b11 w hb11 hst); (try simp only [pz, pn, sz, sc]); refine re ?_
    refine r2 5 12 ?_ ?_
    (first | (refine kT gf159 hst (fun w hst => hgu w (hst.own _ _ (by repeat (first | exact List.Mem.head _ | refine List.Mem.tail _ ?_))) (hst.own _ _ (by repeat (first | exact List.Mem.head _ | refine List.Mem.tail _ ?_)))) rfl rfl rfl rfl ?_; clear hst; intro w hst) | (refine kf gf158 hst (hfix) rfl rfl rfl rfl ?_; clear hst; intro w hst) | (refine kp ?_)); (try simp only [pz, pn, sz, sc]); refine re ?_
    refine r2 6 12 ?_ ?_
    (first | (refine kT gf159 hst (fun w hst => hgu w (hst.own _ _ (by repeat (first | exact List.Mem.head _ | refine List.Mem.tail _ ?_))) (hst.own _ _ (by repeat (first | exact List.Mem.head _ | refine List.Mem.tail _ ?_)))) rfl rfl rfl rfl ?_; clear hst; intro w hst) | (refine kf gf158 hst (hfix) rfl rfl rfl rfl ?_; clear hst; intro w hst) | (refine kp ?_)); (try simp only [pz, pn, sz, sc]); refine re ?_
    refine r0 7 ?_; simp only [pz, pn, sz, sc]
    refine r0 8 ?_; simp only [pz, pn, sz, sc]
    refine r0 9 ?_; simp only [pz, pn, sz, sc]
    refine r0 10 ?_; simp only [pz, pn, sz, sc]
    refine r0 11 ?_; simp only [pz, pn, sz, sc]
    refine r1 12 ?_; (refine ka 10 hst tz25 rfl rfl ?_; clear hst; intro b10 w hb10 hst); (try simp only [pz, pn, sz, sc]); refine re ?_
    refine r1 14 ?_; (first | (refine kt hst ta25 rfl rfl ?_; clear hst; intro w hst) | (refine ktm hst ta25 rfl rfl ?_; clear hst; intro w hst)); (try simp only [pz, pn, sz, sc]); refine re ?_
    refine r1 15 ?_; (first | (refine kt hst ta25 rfl rfl ?_; clear hst; intro w hst) | (refine ktm hst ta25 rfl rfl ?_; clear hst; intro w hst)); (try simp only [pz, pn, sz, sc]); refine re ?_
    refine r0 16 ?_; simp only [pz, pn, sz, sc]
    refine r0 17 ?_; simp only [pz, pn, sz, sc]
    refine rd_ ?_
    rotate_left 1
    (refine ka 10 hst tz25 rfl rfl ?_; clear hst; intro b10 w hb10 hst); (try simp only [pz, pn, sz, sc]); refine re ?_
    refine r1 6 ?_; (first | (refine kT gf159 hst (fun w hst => hgu w (hst.own _ _ (by repeat (first | exact List.Mem.head _ | refine List.Mem.tail _ ?_))) (hst.own _ _ (by repeat (first | exact List.Mem.head _ | refine List.Mem.tail _ ?_)))) rfl rfl rfl rfl ?_; clear hst; intro w hst) | (refine kf gf158 hst (hfix) rfl rfl rfl rfl ?_; clear hst; intro w hst) | (refine kp ?_)); (try simp only [pz, pn, sz, sc]); refine re ?_
    refine r0 7 ?_; simp only [pz, pn, sz, sc]
    refine r0 8 ?_; simp only [pz, pn, sz, sc]
    refine r0 9 ?_; simp only [pz, pn, sz, sc]
    refine r0 10 ?_; simp only [pz, pn, sz, sc]
    refine r0 11 ?_; simp only [pz, pn, sz, sc]
    refine r1 14 ?_; (first | (refine kt hst ta25 rfl rfl ?_; clear hst; intro w hst) | (refine ktm hst ta25 rfl rfl ?_; clear hst; intro w hst)); (try simp only [pz, pn, sz, sc]); refine re ?_
    refine r1 15 ?_; (first | (refine kt hst ta25 rfl rfl ?_; clear hst; intro w hst) | (refine ktm hst ta25 rfl rfl ?_; clear hst; intro w hst)); (try simp only [pz, pn, sz, sc]); refine re ?_
    refine r0 16 ?_; simp only [pz, pn, sz, sc]
    refine r0 17 ?_; simp only [pz, pn, sz, sc]
    refine rd_ ?_
    rotate_right 1
    rotate_left 2
    (refine ka 10 hst tz25 rfl rfl ?_; clear hst; intro b10 w hb10 hst); (try simp only [pz, pn, sz, sc]); refine re ?_
    refine r1 5 ?_; (first | (refine kT gf159 hst (fun w hst => hgu w (hst.own _ _ (by repeat (first | exact List.Mem.head _ | refine List.Mem.tail _ ?_))) (hst.own _ _ (by repeat (first | exact List.Mem.head _ | refine List.Mem.tail _ ?_)))) rfl rfl rfl rfl ?_; clear hst; intro w hst) | (refine kf gf158 hst (hfix) rfl rfl rfl rfl ?_; clear hst; intro w hst) | (refine kp ?_)); (try simp only [pz, pn, sz, sc]); refine re ?_
    refine r1 6 ?_; (first | (refine kT gf159 hst (fun w hst => hgu w (hst.own _ _ (by repeat (first | exact List.Mem.head _ | refine List.Mem.tail _ ?_))) (hst.own _ _ (by repeat (first | exact List.Mem.head _ | refine List.Mem.tail _ ?_)))) rfl rfl rfl rfl ?_; clear hst; intro w hst) | (refine kf gf158 hst (hfix) rfl rfl rfl rfl ?_; clear hst; intro w hst) | (refine kp ?_)); (try simp only [pz, pn, sz, sc]); refine re ?_
    refine r0 7 ?_; simp only [pz, pn, sz, sc]
    refine r0 8 ?_; simp only [pz, pn, sz, sc]
    refine r0 9 ?_; simp only [pz, pn, sz, sc]
    refine r0 10 ?_; simp only [pz, pn, sz, sc]
    refine r0 11 ?_; simp only [pz, pn, sz, sc]
    refine r1 14 ?_; (first | (refine kt hst ta25 rfl rfl ?_; clear hst; intro w hst) | (refine ktm hst ta25 rfl rfl ?_; clear hst; intro w hst)); (try simp only [pz, pn, sz, sc]); refine re ?_
    refine r1 15 ?_; (first | (refine kt hst ta25 rfl rfl ?_; clear hst; intro w hst) | (refine ktm hst ta25 rfl rfl ?_; clear hst; intro w hst)); (try simp only [pz, pn, sz, sc]); refine re ?_
    refine r0 16 ?_; simp only [pz, pn, sz, sc]
    refine r0 17 ?_; simp only [pz, pn, sz, sc]
    refine rd_ ?_
    rotate_right 2
    rotate_right 9
    all_goals
      go_wp2_with ((first | (refine kb 4 hst rfl rfl ?_; clear hst; intro b4 w hb4 hst) | (refine kb 5 hst rfl rfl ?_; clear hst; intro b5 w hb5 hst) | (refine ka 6 hst tz25 rfl rfl ?_; clear hst; intro b6 w hb6 hst) | (refine ka 7 hst tz25 rfl rfl ?_; clear hst; intro b7 w hb7 hst) | (refine kl hst ta25 rfl ?_) | (refine klm hst ta25 rfl ?_) | (refine kt hst ta25 rfl rfl ?_; clear hst; intro w hst) | (refine ktm hst ta25 rfl rfl ?_; clear hst; intro w hst) | (refine ka 10 hst tz25 rfl rfl ?_; clear hst; intro b10 w hb10 hst) | (refine ka 11 hst tz25 rfl rfl ?_; clear hst; intro b11 w hb11 hst)); try simp only [pz, pn, sz, sc])
      replace hst : St w0 [br] [(b11, .cells (wc 8 r) 25), (b10, .cells (wc 8 q) 25), (b7, .cells (wc 8 0) 25), (b6, .cells (wc 8 0) 25), (br, .cells cf 69)] w := St.choose hst (by
        have hnd := hst.nodup
        simp only [List.map_cons, List.map_nil, List.nodup_cons, List.mem_cons, List.not_mem_nil, or_false, not_or, not_false_eq_true, List.nodup_nil, and_true] at hnd ⊢
        repeat' apply And.intro
        all_goals (intro e; subst e; simp at hnd)) (by
        intro x hx
        simp only [List.mem_cons, List.not_mem_nil, or_false] at hx ⊢
        rcases hx with rfl | rfl | rfl | rfl | rfl <;> simp)
      refine wp_region_TV 6 [(b11, .cells (wc 8 r) 25), (b10, .cells (wc 8 q) 25)] hst (by kernel_rfl) ?_; clear hst; intro w hst; (try dsimp only [List.length_cons, List.length_nil]); (try simp only [List.length_cons, List.length_nil, Nat.reduceAdd, Array.replicate_succ, Array.replicate_zero, List.push_toArray, List.nil_append, List.cons_append])
      refine r0 2 ?_; simp only [pz, pn, sz, sc]
      refine rl 0 rfl ?_ (by first | exact ylA ta25 | exact ylM ta25); simp only [pz, pn, sz, sc]
      refine rl 1 rfl ?_ (by first | exact ylA ta25 | exact ylM ta25); simp only [pz, pn, sz, sc]
      refine r1 3 ?_; (first | (refine kt hst ta25 rfl rfl ?_; clear hst; intro w hst) | (refine ktm hst ta25 rfl rfl ?_; clear hst; intro w hst)); (try simp only [pz, pn, sz, sc]); refine re ?_
      refine r1 4 ?_; (first | (refine kt hst ta25 rfl rfl ?_; clear hst; intro w hst) | (refine ktm hst ta25 rfl rfl ?_; clear hst; intro w hst)); (try simp only [pz, pn, sz, sc]); refine re ?_
      refine r0 5 ?_; simp only [pz, pn, sz, sc]
      refine rd_ ?_
      go_wp2_with ((first | (refine kb 4 hst rfl rfl ?_; clear hst; intro b4 w hb4 hst) | (refine kb 5 hst rfl rfl ?_; clear hst; intro b5 w hb5 hst) | (refine ka 6 hst tz25 rfl rfl ?_; clear hst; intro b6 w hb6 hst) | (refine ka 7 hst tz25 rfl rfl ?_; clear hst; intro b7 w hb7 hst) | (refine kl hst ta25 rfl ?_) | (refine klm hst ta25 rfl ?_) | (refine kt hst ta25 rfl rfl ?_; clear hst; intro w hst) | (refine ktm hst ta25 rfl rfl ?_; clear hst; intro w hst) | (refine ka 10 hst tz25 rfl rfl ?_; clear hst; intro b10 w hb10 hst) | (refine ka 11 hst tz25 rfl rfl ?_; clear hst; intro b11 w hb11 hst)); try simp only [pz, pn, sz, sc])
      refine bp_cct rfl rfl (la hst ta25) (la hst ta25) (by rfl) ⟨?_, hst.keeps, own_one (hst.own _ _ (by simp))⟩
      rfl
  · rw [if_neg hm, if_neg hm, if_neg hm]
    generalize mayE n d = e at *
    have Q0 : ((e : Int) == 0) = false := by simp; omega
    clear hm hc he hr hn hd
    go_enter Tryz.func155, Tryz.ntmps155
    go_wp2_with ((first | (refine kf gf157 hst (hmay) rfl rfl rfl rfl ?_; clear hst; intro w hst) | (refine kb 4 hst rfl rfl ?_; clear hst; intro b4 w hb4 hst) | (refine kb 5 hst rfl rfl ?_; clear hst; intro b5 w hb5 hst) | (refine ka 6 hst tz25 rfl rfl ?_; clear hst; intro b6 w hb6 hst) | (refine ka 7 hst tz25 rfl rfl ?_; clear hst; intro b7 w hb7 hst) | (refine kl hst ta25 rfl ?_) | (refine klm hst ta25 rfl ?_) | (refine kt hst ta25 rfl rfl ?_; clear hst; intro w hst) | (refine ktm hst ta25 rfl rfl ?_; clear hst; intro w hst) | (refine ka 10 hst tz25 rfl rfl ?_; clear hst; intro b10 w hb10 hst) | (refine ka 11 hst tz25 rfl rfl ?_; clear hst; intro b11 w hb11 hst)); try simp only [pz, pn, sz, sc])
    refine bp_cct rfl rfl (la hst ta25) (la hst ta25) (by rfl) ⟨?_, hst.keeps, own_one (hst.own _ _ (by simp))⟩
    rw [W_zero]; rfl

theorem div_newton (bs br : Nat) (c : Array Value) (hc : RomOk c) (c1 c2 c3 c4 n d : Nat) (hn : n < M) (hd : d < M) : DivM bs br c (romD n d c) c1 c2 c3 c4 3 n d (quoQ n d) (quoM n d) (mayE n d : Nat) := by
  refine ⟨155, .pointer (some ⟨c1, 0, none⟩), fun w => by unfold engA eA3; kernel_rfl, fun w q hL => ?_⟩
  have hbr := hL.2 br _ (List.Mem.tail _ (List.Mem.head _))
  have hc1 := hL.2 c1 _ (List.Mem.tail _ (List.Mem.tail _ (List.Mem.head _)))
  have hnd := hL.1
  simp only [EngL, List.map_cons, List.map_nil, List.nodup_cons, List.mem_cons, List.not_mem_nil, or_false, not_or] at hnd
  exact newton_Divide c1 br c hc (fun e => by omega) n d hn hd w hc1 hbr

end Go.Proofs.YtggchelniblipaaGreat.Rd
