/- Laws of calls that bring new blocks, or write some of ours; what limb.made, Shift answer. -/
import Derived.Test.YtggchelniblipaaGreatDoorJ04
import Derived.Test.YtggchelniblipaaGreatDoorJ03
import Derived.Laws.MakeOwn
namespace Go.Proofs.YtggchelniblipaaGreatDoor.Rd
open Go Go.RowKit
set_option linter.unusedVariables false
set_option linter.unusedSimpArgs false
set_option maxRecDepth 100000

/-- A limb of a number that is shifted down; beyond the end y. -/
def shrL (a c y i : Nat) : Nat := wat a ((i : Int) + (c / 64 : Nat)) y / 2 ^ (c % 64) ||| wat a ((i : Int) + (c / 64 : Nat) + 1) y * 2 ^ (64 - c % 64) % B
theorem shrL_lt (a c y i : Nat) (hy : y < B) : shrL a c y i < B := or_B (Nat.lt_of_le_of_lt (Nat.div_le_self _ _) (wat_lt _ _ _ hy)) (Nat.mod_lt _ B_pos)
/-- Digit by digit: beyond the 512th the one of v. -/
theorem shr_bit (a c y i j : Nat) (v : Bool) (ha : a < M) (hyB : y < B) (hy : ∀ j, j < 64 → y.testBit j = v) (hi : i < 8) (hj : j < 64) : (shrL a c y i).testBit j = if c + (64 * i + j) < 512 then a.testBit (c + (64 * i + j)) else v := by
  have hr : c % 64 < 64 := Nat.mod_lt _ (by omega)
  have hq : c = 64 * (c / 64) + c % 64 := by omega
  unfold shrL
  rw [Nat.testBit_or, mod_B, Nat.mul_comm (wat _ _ _), Nat.testBit_two_pow_mul, Nat.testBit_div_two_pow]
  generalize c / 64 = q at *
  generalize c % 64 = r at *
  subst hq
  simp only [hj, decide_true, Bool.true_and]
  by_cases h1 : j + r < 64
  · have h2 : decide (64 - r ≤ j) = false := by simp; omega
    rw [h2, wat_bit _ _ _ _ h1 ha]
    simp only [Bool.false_and, Bool.or_false]
    rw [if_neg (by omega)]
    by_cases h3 : i + q < 8
    · rw [if_neg (by omega), if_pos (by omega)]; congr 1; omega
    · rw [if_pos (by omega), if_neg (by omega), hy _ h1]
  · have h2 : decide (64 - r ≤ j) = true := by simp; omega
    rw [high_bit (wat_lt a _ y hyB) (show 64 ≤ j + r by omega), h2, wat_bit _ _ _ _ (show j - (64 - r) < 64 by omega) ha]
    simp only [Bool.false_or, Bool.true_and]
    rw [if_neg (by omega)]
    by_cases h3 : i + q + 1 < 8
    · rw [if_neg (by omega), if_pos (by omega)]; congr 1; omega
    · rw [if_pos (by omega), if_neg (by omega), hy _ (by omega)]
theorem shr_limb (a c i : Nat) (ha : a < M) (hi : i < 8) : shrL a c 0 i = lb (a / 2 ^ c) i := by
  apply Nat.eq_of_testBit_eq
  intro j
  by_cases hj : j < 64
  · rw [shr_bit a c 0 i j false ha B_pos (fun _ _ => by simp) hi hj, lb_testBit, Nat.testBit_div_two_pow]
    simp only [hj, decide_true, Bool.true_and]
    rw [Nat.add_comm (64 * i + j)]
    split
    · rfl
    · rw [M_bit ha (by omega)]
  · rw [high_bit (shrL_lt a c 0 i B_pos) (by omega), high_bit (lb_lt _ _) (by omega)]

/-- A number with a sign, shifted down. -/
def sarN (a c : Nat) : Nat := if minusB a then M - (1 + (M - (1 + a)) / 2 ^ c) else a / 2 ^ c
theorem M_two : M = 2 ^ 512 := by
  have : ∀ m, 64 * 8 = m → M = 2 ^ m := fun m e => by rw [← e, M_eq, show B = 2 ^ 64 from rfl, ← Nat.pow_mul]
  exact this 512 (by omega)
theorem compl_bit {x : Nat} (hx : x < M) (j : Nat) : (M - (1 + x)).testBit j = (decide (j < 512) && !x.testBit j) := by
  have key : ∀ m, M = 2 ^ m → (M - (1 + x)).testBit j = (decide (j < m) && !x.testBit j) := fun m e => by
    rw [e] at hx ⊢
    rw [Nat.add_comm]
    exact Nat.testBit_two_pow_sub_succ hx j
  exact key 512 M_two
theorem sarN_lt (a c : Nat) (ha : a < M) : sarN a c < M := by
  unfold sarN
  split
  · exact Nat.sub_lt M_pos (Nat.lt_of_lt_of_le Nat.zero_lt_one (Nat.le_add_right _ _))
  · exact Nat.lt_of_le_of_lt (Nat.div_le_self _ _) ha
theorem ones_bit (j : Nat) (h : j < 64) : (18446744073709551615 : Nat).testBit j = true := by
  have := Nat.testBit_two_pow_sub_one 64 j
  simpa [h] using this
theorem sar_limb (a c i : Nat) (ha : a < M) (hi : i < 8) (hm : minusB a = true) : shrL a c 18446744073709551615 i = lb (sarN a c) i := by
  have hx : (M - (1 + a)) / 2 ^ c < M := Nat.lt_of_le_of_lt (Nat.div_le_self _ _) (by have := M_pos; omega)
  apply Nat.eq_of_testBit_eq
  intro j
  by_cases hj : j < 64
  · rw [shr_bit a c _ i j true ha (by rw [B_val]; omega) ones_bit hi hj, lb_testBit]
    unfold sarN
    rw [if_pos hm, compl_bit hx, Nat.testBit_div_two_pow, compl_bit ha]
    have e1 : decide (64 * i + j < 512) = true := by simp; omega
    simp only [hj, e1, decide_true, Bool.true_and]
    rw [Nat.add_comm (64 * i + j)]
    split
    · rename_i h; simp [h]
    · rename_i h; simp [h]
  · rw [high_bit (shrL_lt a c _ i (by rw [B_val]; omega)) (by omega), high_bit (lb_lt _ _) (by omega)]

set_option maxHeartbeats 4000000 in
theorem wide_down_1 (a c y i : Nat) (ha : a < M) (hc : c ≤ 512) (hy : y < B) (hi : i < 8) (b1 b2 b3 b4 : Nat) (E1 E2 E3 E4 : TypeId) (hn : [b4, b2, b3, b1].Nodup) (w0 : World)
    (h1 : w0.heap[b1]? = some (.cells (wc 8 a) E1)) (h2 : w0.heap[b2]? = some (.cells #[.int .i64 (c / 64 : Nat)] E2)) (h3 : w0.heap[b3]? = some (.cells #[.int .u64 y] E3)) (h4 : w0.heap[b4]? = some (.cells #[.int .i64 (c % 64 : Nat)] E4)) :
    GivesAt Tryz.prog 148 #[.int .i64 (i : Nat), .pointer (some ⟨b1, 0, none⟩), .pointer (some ⟨b2, 0, none⟩), .pointer (some ⟨b3, 0, none⟩), .pointer (some ⟨b4, 0, none⟩)] (.int .u64 (shrL a c y i : Nat)) w0 := by
  have hst : St w0 [] [(b4, .cells #[.int .i64 (c % 64 : Nat)] E4), (b2, .cells #[.int .i64 (c / 64 : Nat)] E2), (b3, .cells #[.int .u64 y] E3), (b1, .cells (wc 8 a) E1)] w0 :=
    ⟨Keeps.refl _ _, fun b o h => by simp only [List.mem_cons, Prod.mk.injEq, List.not_mem_nil, or_false] at h; rcases h with ⟨rfl, rfl⟩ | ⟨rfl, rfl⟩ | ⟨rfl, rfl⟩ | ⟨rfl, rfl⟩ <;> assumption, hn⟩
  have hx := wide_at a ((i : Int) + (c / 64 : Nat)) y
  have hz := wide_at a ((i : Int) + (c / 64 : Nat) + 1) y
  have hxB := wat_lt a ((i : Int) + (c / 64 : Nat)) y hy
  have hzB := wat_lt a ((i : Int) + (c / 64 : Nat) + 1) y hy
  unfold shrL
  have hq : c / 64 ≤ 8 := by omega
  have hr : c % 64 < 64 := Nat.mod_lt _ (by omega)
  generalize c / 64 = q at *
  generalize c % 64 = r at *
  generalize wat a ((i : Int) + (q : Nat)) y = x at *
  generalize wat a ((i : Int) + (q : Nat) + 1) y = z at *
  obtain ⟨s, hs⟩ : ∃ s, s = x / 2 ^ r := ⟨_, rfl⟩
  obtain ⟨t, ht⟩ : ∃ t, t = z * 2 ^ (64 - r) % B := ⟨_, rfl⟩
  have hsB : s < B := by rw [hs]; exact Nat.lt_of_le_of_lt (Nat.div_le_self _ _) hxB
  have htB : t < B := by rw [ht]; exact Nat.mod_lt _ B_pos
  rw [← hs, ← ht]
  have F1 : IntKind.u64.wrap ((z : Int) * 2 ^ (64 - r)) = (t : Int) := u64_wrap' _ (z * 2 ^ (64 - r)) _ (by rw [cast_pow2]; exact (Int.natCast_mul _ _).symm) ht.symm
  have F2 : (x : Int) / 2 ^ r = (s : Int) := by rw [hs, cast_pow2]; omega
  have F3 := bits_or64 s t hsB htB
  have w1 : IntKind.i64.wrap ((i : Int) + (q : Int)) = (i : Int) + q := i64w _ (by omega) (by omega)
  have w2 : IntKind.i64.wrap ((i : Int) + (q : Int) + 1) = (i : Int) + q + 1 := i64w _ (by omega) (by omega)
  have w3 : IntKind.i64.wrap (64 - (r : Int)) = ((64 - r : Nat) : Int) := by rw [i64w _ (by omega) (by omega)]; omega
  clear hs ht hsB htB hxB hzB h1 h2 h3 h4 ha hn hy
  go_enter Tryz.func148, Tryz.ntmps148
  go_wp2_with ((first | (refine kl hst ta24 rfl ?_) | (refine klm hst ta24 rfl ?_) | (refine kc hst tc3 rfl ?_) | (refine kc hst tc22 rfl ?_)); try simp only [pz, pn, sz, sc])
  refine wp_region_T 20  hst (by kernel_rfl) ?_; clear hst; intro w hst; (try dsimp only [List.length_cons, List.length_nil]); (try simp only [List.length_cons, List.length_nil, Nat.reduceAdd, Array.replicate_succ, Array.replicate_zero, List.push_toArray, List.nil_append, List.cons_append])
  refine r0 1 ?_; simp only [pz, pn, sz, sc, w1, w2, w3, F1, F2, F3]
  refine r0 9 ?_; simp only [pz, pn, sz, sc, w1, w2, w3, F1, F2, F3]
  refine rl 0 rfl ?_ (by first | exact ylA ta24 | exact ylM ta24); simp only [pz, pn, sz, sc, w1, w2, w3, F1, F2, F3]
  refine rl 2 rfl ?_ (ylC tc3); simp only [pz, pn, sz, sc, w1, w2, w3, F1, F2, F3]
  refine r0 3 ?_; simp only [pz, pn, sz, sc, w1, w2, w3, F1, F2, F3]
  refine rl 4 rfl ?_ (ylC tc22); simp only [pz, pn, sz, sc, w1, w2, w3, F1, F2, F3]
  refine rl 6 rfl ?_ (ylC tc3); simp only [pz, pn, sz, sc, w1, w2, w3, F1, F2, F3]
  refine rl 8 rfl ?_ (by first | exact ylA ta24 | exact ylM ta24); simp only [pz, pn, sz, sc, w1, w2, w3, F1, F2, F3]
  refine rl 10 rfl ?_ (ylC tc3); simp only [pz, pn, sz, sc, w1, w2, w3, F1, F2, F3]
  refine r0 11 ?_; simp only [pz, pn, sz, sc, w1, w2, w3, F1, F2, F3]
  refine r0 12 ?_; simp only [pz, pn, sz, sc, w1, w2, w3, F1, F2, F3]
  refine rl 13 rfl ?_ (ylC tc22); simp only [pz, pn, sz, sc, w1, w2, w3, F1, F2, F3]
  refine rl 15 rfl ?_ (ylC tc3); simp only [pz, pn, sz, sc, w1, w2, w3, F1, F2, F3]
  refine r0 16 ?_; simp only [pz, pn, sz, sc, w1, w2, w3, F1, F2, F3]
  refine r1 5 ?_; (first | (refine kf gf103 hst (hx) rfl rfl rfl rfl ?_; clear hst; intro w hst) | (refine kf gf103 hst (hz) rfl rfl rfl rfl ?_; clear hst; intro w hst) | (refine kp ?_)); (try simp only [pz, pn, sz, sc, w1, w2, w3, F1, F2, F3]); refine re ?_
  refine r0 7 ?_; simp only [pz, pn, sz, sc, w1, w2, w3, F1, F2, F3]
  refine r1 14 ?_; (first | (refine kf gf103 hst (hx) rfl rfl rfl rfl ?_; clear hst; intro w hst) | (refine kf gf103 hst (hz) rfl rfl rfl rfl ?_; clear hst; intro w hst) | (refine kp ?_)); (try simp only [pz, pn, sz, sc, w1, w2, w3, F1, F2, F3]); refine re ?_
  refine r0 17 ?_; simp only [pz, pn, sz, sc, w1, w2, w3, F1, F2, F3]
  refine r0 18 ?_; simp only [pz, pn, sz, sc, w1, w2, w3, F1, F2, F3]
  refine r0 19 ?_; simp only [pz, pn, sz, sc, w1, w2, w3, F1, F2, F3]
  refine rd_ ?_
  go_wp2_with ((first | (refine kl hst ta24 rfl ?_) | (refine klm hst ta24 rfl ?_) | (refine kc hst tc3 rfl ?_) | (refine kc hst tc22 rfl ?_)); try simp only [pz, pn, sz, sc])
  refine bp_t rfl rfl (by rfl) ⟨?_, hst.keeps⟩
  rfl

theorem Keeps.at {w w' : World} {b : Nat} {o : Obj} (k : Keeps [] w w') (h : w.heap[b]? = some o) : w'.heap[b]? = some o := by rw [k.block _ (lt_of_some h) (by simp)]; exact h

set_option maxHeartbeats 4000000 in
theorem wide_down (a c y m : Nat) (ha : a < M) (hc : c ≤ 512) (hy : y < B) (hm : lsum (shrL a c y) 8 = m) : Gives Tryz.prog 137 #[W a, .int .i64 c, .int .u64 y] (W m) := by
  intro w0
  have hst := St.start [] w0
  have hmade := fun b3 b7 b5 b8 w (hn : [b8, b7, b5, b3].Nodup) (h1 : w.heap[b3]? = some (.cells (wc 8 a) 24)) (h2 : w.heap[b7]? = some (.cells #[.int .i64 (c / 64 : Nat)] 3)) (h3 : w.heap[b5]? = some (.cells #[.int .u64 y] 22)) (h4 : w.heap[b8]? = some (.cells #[.int .i64 (c % 64 : Nat)] 3)) =>
    wide_made 148 gf148 #[.pointer (some ⟨b3, 0, none⟩), .pointer (some ⟨b7, 0, none⟩), .pointer (some ⟨b5, 0, none⟩), .pointer (some ⟨b8, 0, none⟩)] (shrL a c y) (fun i => shrL_lt a c y i hy) w
      (fun i w' hi k => wide_down_1 a c y i ha hc hy hi b3 b7 b5 b8 _ _ _ _ hn w' (k.at h1) (k.at h2) (k.at h3) (k.at h4))
  rw [hm] at hmade
  have Q1 : (c : Int) / 64 = ((c / 64 : Nat) : Int) := by omega
  have Q2 : (c : Int) % 64 = ((c % 64 : Nat) : Int) := by omega
  have Q3 : (0 : Int) ≤ (c : Int) := by omega
  have Q5 : (c : Int).tdiv 64 = ((c / 64 : Nat) : Int) := by rw [Int.tdiv_eq_ediv_of_nonneg (by omega)]; exact Q1
  have Q6 : (c : Int).tmod 64 = ((c % 64 : Nat) : Int) := by rw [Int.tmod_eq_emod_of_nonneg (by omega)]; exact Q2
  have hq : c / 64 ≤ 8 := by omega
  have hr : c % 64 < 64 := Nat.mod_lt _ (by omega)
  clear hm hc
  generalize c / 64 = q at *
  generalize c % 64 = r at *
  go_enter Tryz.func137, Tryz.ntmps137
  go_wp2_with ((first | (refine kg gf101 hst (fun w hst => hmade b3 b7 b5 b8 w (List.Nodup.sublist (by repeat (first | exact List.Sublist.refl _ | exact List.nil_sublist _ | refine List.Sublist.cons_cons _ ?_ | refine List.Sublist.cons _ ?_)) hst.nodup) (hst.own _ _ (by repeat (first | exact List.Mem.head _ | refine List.Mem.tail _ ?_))) (hst.own _ _ (by repeat (first | exact List.Mem.head _ | refine List.Mem.tail _ ?_))) (hst.own _ _ (by repeat (first | exact List.Mem.head _ | refine List.Mem.tail _ ?_))) (hst.own _ _ (by repeat (first | exact List.Mem.head _ | refine List.Mem.tail _ ?_)))) rfl rfl rfl rfl ?_; clear hst; intro w hst) | (refine kb 3 hst rfl rfl ?_; clear hst; intro b3 w hb3 hst) | (refine kb 5 hst rfl rfl ?_; clear hst; intro b5 w hb5 hst) | (refine ka 6 hst tz24 rfl rfl ?_; clear hst; intro b6 w hb6 hst) | (refine ka 7 hst tz3 rfl rfl ?_; clear hst; intro b7 w hb7 hst) | (refine ka 8 hst tz3 rfl rfl ?_; clear hst; intro b8 w hb8 hst) | (refine ks hst tc3 rfl rfl ?_; clear hst; intro w hst) | (refine kt hst ta24 rfl rfl ?_; clear hst; intro w hst) | (refine ktm hst ta24 rfl rfl ?_; clear hst; intro w hst)); try simp only [pz, pn, sz, sc])
  refine bp_c rfl rfl (la hst ta24) ⟨?_, hst.keeps⟩
  rfl

theorem wide_Shr (a : Nat) (n : Int) (ha : a < M) : Gives Tryz.prog 123 #[W a, .int .i64 n] (.tuple #[W (a / 2 ^ clampN n), .bool (!decide (a / 2 ^ clampN n * 2 ^ clampN n = a))]) := by
  intro w0
  have hst := St.start [] w0
  have hcl := wide_clamp n
  have hc := clampN_le n
  have hdown := wide_down a (clampN n) 0 (a / 2 ^ clampN n) ha hc B_pos (lsum_of (Nat.lt_of_le_of_lt (Nat.div_le_self _ _) ha) (fun i hi => shr_limb a (clampN n) i ha hi))
  have hlt : a / 2 ^ clampN n < M := Nat.lt_of_le_of_lt (Nat.div_le_self _ _) ha
  have hshl := wide_Shl (a / 2 ^ clampN n) (clampN n : Nat) hlt
  rw [clampN_nat _ hc] at hshl
  have hle : a / 2 ^ clampN n * 2 ^ clampN n < M := Nat.lt_of_le_of_lt (Nat.div_mul_le_self _ _) ha
  rw [Nat.mod_eq_of_lt hle] at hshl
  generalize a / 2 ^ clampN n * 2 ^ clampN n = s at *
  generalize a / 2 ^ clampN n = q at *
  generalize clampN n = c at *
  have hd : ∃ d, decide (s = a) = d := ⟨_, rfl⟩
  obtain ⟨d, hd⟩ := hd
  rw [hd]
  go_enter Tryz.func123, Tryz.ntmps123
  go_wp2_with ((first | (refine kf gf100 hst (hcl) rfl rfl rfl rfl ?_; clear hst; intro w hst) | (refine kf gf137 hst (hdown) rfl rfl rfl rfl ?_; clear hst; intro w hst) | (refine kb 2 hst rfl rfl ?_; clear hst; intro b2 w hb2 hst) | (refine ka 4 hst tz24 rfl rfl ?_; clear hst; intro b4 w hb4 hst) | (refine kl hst ta24 rfl ?_) | (refine klm hst ta24 rfl ?_) | (refine ka 6 hst tz24 rfl rfl ?_; clear hst; intro b6 w hb6 hst) | (refine kt hst ta24 rfl rfl ?_; clear hst; intro w hst) | (refine ktm hst ta24 rfl rfl ?_; clear hst; intro w hst) | (refine kn tr24 tc22 rfl ?_)); try simp only [pz, pn, sz, sc])
  refine wp_region_TV 8 [(b6, .cells (wc 8 q) 24), (b2, .cells (wc 8 a) 24)] hst (by kernel_rfl) ?_; clear hst; intro w hst; (try dsimp only [List.length_cons, List.length_nil]); (try simp only [List.length_cons, List.length_nil, Nat.reduceAdd, Array.replicate_succ, Array.replicate_zero, List.push_toArray, List.nil_append, List.cons_append])
  refine r0 2 ?_; simp only [pz, pn, sz, sc]
  refine rl 0 rfl ?_ (by first | exact ylA ta24 | exact ylM ta24); simp only [pz, pn, sz, sc]
  refine rl 1 rfl ?_ (by first | exact ylA ta24 | exact ylM ta24); simp only [pz, pn, sz, sc]
  refine rl 4 rfl ?_ (by first | exact ylA ta24 | exact ylM ta24); simp only [pz, pn, sz, sc]
  refine r1 3 ?_; (first | (refine kf gf94 hst (hshl) rfl rfl rfl rfl ?_; clear hst; intro w hst) | (refine kp ?_)); (try simp only [pz, pn, sz, sc]); refine re ?_
  refine r0 5 ?_ (hy := yN tr24 tc22); simp only [pz, pn, sz, sc]
  refine r1 6 ?_; (first | (refine kt hst ta24 rfl rfl ?_; clear hst; intro w hst) | (refine ktm hst ta24 rfl rfl ?_; clear hst; intro w hst)); (try simp only [pz, pn, sz, sc]); refine re ?_
  refine r0 7 ?_; simp only [pz, pn, sz, sc]
  refine rd_ ?_
  go_wp2_with ((first | (refine kb 2 hst rfl rfl ?_; clear hst; intro b2 w hb2 hst) | (refine ka 4 hst tz24 rfl rfl ?_; clear hst; intro b4 w hb4 hst) | (refine kl hst ta24 rfl ?_) | (refine klm hst ta24 rfl ?_) | (refine ka 6 hst tz24 rfl rfl ?_; clear hst; intro b6 w hb6 hst) | (refine kt hst ta24 rfl rfl ?_; clear hst; intro w hst) | (refine ktm hst ta24 rfl rfl ?_; clear hst; intro w hst) | (refine kn tr24 tc22 rfl ?_)); try simp only [pz, pn, sz, sc])
  refine bp_ct rfl rfl (la hst ta24) (by rfl) ⟨?_, hst.keeps⟩
  rfl

theorem wide_Sar (a : Nat) (n : Int) (ha : a < M) : Gives Tryz.prog 131 #[W a, .int .i64 n] (W (sarN a (clampN n))) := by
  intro w0
  have hst := St.start [] w0
  have hcl := wide_clamp n
  have hc := clampN_le n
  have hmi := wide_Minus a ha
  generalize clampN n = c at *
  have hlt := sarN_lt a c ha
  by_cases h : minusB a = true
  · have hdown := wide_down a c 18446744073709551615 (sarN a c) ha hc (by rw [B_val]; omega) (lsum_of hlt (fun i hi => sar_limb a c i ha hi h))
    rw [h] at hmi
    clear h
    go_enter Tryz.func131, Tryz.ntmps131
    go_wp2_with ((first | (refine kf gf122 hst (hmi) rfl rfl rfl rfl ?_; clear hst; intro w hst) | (refine kb 2 hst rfl rfl ?_; clear hst; intro b2 w hb2 hst) | (refine ka 4 hst tz24 rfl rfl ?_; clear hst; intro b4 w hb4 hst) | (refine kl hst ta24 rfl ?_) | (refine klm hst ta24 rfl ?_) | (refine kt hst ta24 rfl rfl ?_; clear hst; intro w hst) | (refine ktm hst ta24 rfl rfl ?_; clear hst; intro w hst)); try simp only [pz, pn, sz, sc])
    refine wp_region_T 4  hst (by kernel_rfl) ?_; clear hst; intro w hst; (try dsimp only [List.length_cons, List.length_nil]); (try simp only [List.length_cons, List.length_nil, Nat.reduceAdd, Array.replicate_succ, Array.replicate_zero, List.push_toArray, List.nil_append, List.cons_append])
    refine r0 1 ?_; simp only [pz, pn, sz, sc]
    refine rl 0 rfl ?_ (by first | exact ylA ta24 | exact ylM ta24); simp only [pz, pn, sz, sc]
    refine r1 2 ?_; (first | (refine kf gf100 hst (hcl) rfl rfl rfl rfl ?_; clear hst; intro w hst) | (refine kf gf137 hst (hdown) rfl rfl rfl rfl ?_; clear hst; intro w hst) | (refine kp ?_)); (try simp only [pz, pn, sz, sc]); refine re ?_
    refine r1 3 ?_; (first | (refine kf gf100 hst (hcl) rfl rfl rfl rfl ?_; clear hst; intro w hst) | (refine kf gf137 hst (hdown) rfl rfl rfl rfl ?_; clear hst; intro w hst) | (refine kp ?_)); (try simp only [pz, pn, sz, sc]); refine re ?_
    refine r1 4 ?_; (first | (refine kt hst ta24 rfl rfl ?_; clear hst; intro w hst) | (refine ktm hst ta24 rfl rfl ?_; clear hst; intro w hst)); (try simp only [pz, pn, sz, sc]); refine re ?_
    refine rd_ ?_
    go_wp2_with ((first | (refine kb 2 hst rfl rfl ?_; clear hst; intro b2 w hb2 hst) | (refine ka 4 hst tz24 rfl rfl ?_; clear hst; intro b4 w hb4 hst) | (refine kl hst ta24 rfl ?_) | (refine klm hst ta24 rfl ?_) | (refine kt hst ta24 rfl rfl ?_; clear hst; intro w hst) | (refine ktm hst ta24 rfl rfl ?_; clear hst; intro w hst)); try simp only [pz, pn, sz, sc])
    refine bp_c rfl rfl (la hst ta24) ⟨?_, hst.keeps⟩
    rfl
  · have e : sarN a c = a / 2 ^ c := by unfold sarN; rw [if_neg h]
    have hdown := wide_down a c 0 (sarN a c) ha hc B_pos (lsum_of hlt (fun i hi => by rw [e]; exact shr_limb a c i ha hi))
    have h' : minusB a = false := by simpa using h
    rw [h'] at hmi
    clear h h' e
    go_enter Tryz.func131, Tryz.ntmps131
    go_wp2_with ((first | (refine kf gf122 hst (hmi) rfl rfl rfl rfl ?_; clear hst; intro w hst) | (refine kb 2 hst rfl rfl ?_; clear hst; intro b2 w hb2 hst) | (refine ka 4 hst tz24 rfl rfl ?_; clear hst; intro b4 w hb4 hst) | (refine kl hst ta24 rfl ?_) | (refine klm hst ta24 rfl ?_) | (refine kt hst ta24 rfl rfl ?_; clear hst; intro w hst) | (refine ktm hst ta24 rfl rfl ?_; clear hst; intro w hst)); try simp only [pz, pn, sz, sc])
    refine wp_region_T 4  hst (by kernel_rfl) ?_; clear hst; intro w hst; (try dsimp only [List.length_cons, List.length_nil]); (try simp only [List.length_cons, List.length_nil, Nat.reduceAdd, Array.replicate_succ, Array.replicate_zero, List.push_toArray, List.nil_append, List.cons_append])
    refine r0 1 ?_; simp only [pz, pn, sz, sc]
    refine rl 0 rfl ?_ (by first | exact ylA ta24 | exact ylM ta24); simp only [pz, pn, sz, sc]
    refine r1 2 ?_; (first | (refine kf gf100 hst (hcl) rfl rfl rfl rfl ?_; clear hst; intro w hst) | (refine kf gf137 hst (hdown) rfl rfl rfl rfl ?_; clear hst; intro w hst) | (refine kp ?_)); (try simp only [pz, pn, sz, sc]); refine re ?_
    refine r1 3 ?_; (first | (refine kf gf100 hst (hcl) rfl rfl rfl rfl ?_; clear hst; intro w hst) | (refine kf gf137 hst (hdown) rfl rfl rfl rfl ?_; clear hst; intro w hst) | (refine kp ?_)); (try simp only [pz, pn, sz, sc]); refine re ?_
    refine r1 4 ?_; (first | (refine kt hst ta24 rfl rfl ?_; clear hst; intro w hst) | (refine ktm hst ta24 rfl rfl ?_; clear hst; intro w hst)); (try simp only [pz, pn, sz, sc]); refine re ?_
    refine rd_ ?_
    go_wp2_with ((first | (refine kb 2 hst rfl rfl ?_; clear hst; intro b2 w hb2 hst) | (refine ka 4 hst tz24 rfl rfl ?_; clear hst; intro b4 w hb4 hst) | (refine kl hst ta24 rfl ?_) | (refine klm hst ta24 rfl ?_) | (refine kt hst ta24 rfl rfl ?_; clear hst; intro w hst) | (refine ktm hst ta24 rfl rfl ?_; clear hst; intro w hst)); try simp only [pz, pn, sz, sc])
    refine bp_c rfl rfl (la hst ta24) ⟨?_, hst.keeps⟩
    rfl

end Go.Proofs.YtggchelniblipaaGreatDoor.Rd

namespace Go.Proofs.YtggchelniblipaaGreatDoor.Rd
open Go Go.RowKit
set_option linter.unusedVariables false
set_option linter.unusedSimpArgs false
set_option maxRecDepth 100000

/-- The cells of a number of k digits. -/
def uw (k n : Nat) : Array Value := (Array.range k).map fun i => .int .u32 (dg n i : Nat)
@[simp] theorem uw_size (k n : Nat) : (uw k n).size = k := by simp [uw]
theorem uw_get (k n i : Nat) (h : i < k) : (uw k n)[i]? = some (.int .u32 (dg n i : Nat)) := by simp [uw, h]

theorem dg_add_at (n d k i : Nat) (hn : n < C ^ k) (hd : d < C) : dg (n + d * C ^ k) i = if i = k then d else dg n i := by
  unfold dg
  rcases Nat.lt_trichotomy i k with h | h | h
  · rw [if_neg (by omega)]
    have e : C ^ k = C ^ i * (C * C ^ (k - i - 1)) := by
      rw [← Nat.pow_succ', ← Nat.pow_add]; congr 1; omega
    rw [e, show n + d * (C ^ i * (C * C ^ (k - i - 1))) = n + C ^ i * (C * (d * C ^ (k - i - 1))) by
      rw [Nat.mul_left_comm, Nat.mul_left_comm d], Nat.add_mul_div_left _ _ (Cp_pos i), Nat.add_mul_mod_self_left]
  · subst h
    rw [if_pos rfl, Nat.add_mul_div_right _ _ (Cp_pos i), Nat.div_eq_of_lt hn, Nat.zero_add, Nat.mod_eq_of_lt hd]
  · rw [if_neg (by omega)]
    have h1 : n + d * C ^ k < C ^ (k + 1) := by
      rw [Nat.pow_succ, Nat.mul_comm (C ^ k)]
      calc n + d * C ^ k < C ^ k + d * C ^ k := by omega
        _ = (d + 1) * C ^ k := by rw [Nat.add_mul, Nat.one_mul, Nat.add_comm]
        _ ≤ C * C ^ k := Nat.mul_le_mul_right _ hd
    have h2 : C ^ (k + 1) ≤ C ^ i := Nat.pow_le_pow_right C_pos h
    have h3 : C ^ k ≤ C ^ i := Nat.pow_le_pow_right C_pos (by omega)
    rw [Nat.div_eq_of_lt (by omega), Nat.div_eq_of_lt (by omega)]

theorem dg_part (n o len i : Nat) (h : i < len) : dg (n / C ^ o % C ^ len) i = dg n (o + i) := by
  unfold dg
  have e : C ^ len = C ^ i * C ^ (len - i) := by rw [← Nat.pow_add]; congr 1; omega
  rw [e, Nat.mod_mul_right_div_self, Nat.div_div_eq_div_mul, ← Nat.pow_add, Nat.mod_mod_of_dvd]
  exact ⟨C ^ (len - i - 1), by rw [← Nat.pow_succ']; congr 1; omega⟩

/-- A number with another digit at a place. -/
def setC (m j d : Nat) : Nat := m % C ^ j + d * C ^ j + m / C ^ (j + 1) * C ^ (j + 1)

theorem setC_eq (m j d : Nat) : setC m j d + dg m j * C ^ j = m + d * C ^ j := by
  have h1 := Nat.div_add_mod m (C ^ (j + 1))
  have h2 := dg_split m j
  unfold setC
  rw [Nat.mul_comm] at h1
  omega

theorem dg_setC (m j d i : Nat) (hd : d < C) : dg (setC m j d) i = if i = j then d else dg m i := by
  have hlo : m % C ^ j < C ^ j := Nat.mod_lt _ (Cp_pos j)
  have hlow : m % C ^ j + d * C ^ j < C ^ (j + 1) := by
    rw [Nat.pow_succ, Nat.mul_comm (C ^ j)]
    have : (d + 1) * C ^ j ≤ C * C ^ j := Nat.mul_le_mul_right _ hd
    rw [Nat.add_mul, Nat.one_mul] at this
    omega
  unfold setC
  rcases Nat.lt_or_ge j i with h | h
  · rw [if_neg (by omega)]
    unfold dg
    have e : C ^ i = C ^ (j + 1) * C ^ (i - (j + 1)) := by rw [← Nat.pow_add]; congr 1; omega
    rw [e, ← Nat.div_div_eq_div_mul, ← Nat.div_div_eq_div_mul, Nat.add_mul_div_right _ _ (Cp_pos (j + 1)), Nat.div_eq_of_lt hlow, Nat.zero_add]
  · have e : m / C ^ (j + 1) * C ^ (j + 1) = C ^ i * (C * (m / C ^ (j + 1) * C ^ (j - i))) := by
      have : C ^ (j + 1) = C ^ i * (C * C ^ (j - i)) := by rw [← Nat.pow_succ', ← Nat.pow_add]; congr 1; omega
      rw [Nat.mul_comm (m / C ^ (j + 1)) (C ^ (j - i)), ← Nat.mul_assoc C, ← Nat.mul_assoc (C ^ i), ← this, Nat.mul_comm]
    have h2 : dg (m % C ^ j + d * C ^ j + m / C ^ (j + 1) * C ^ (j + 1)) i = dg (m % C ^ j + d * C ^ j) i := by
      unfold dg
      rw [e, Nat.add_mul_div_left _ _ (Cp_pos i), Nat.add_mul_mod_self_left]
    rw [h2, dg_add_at _ _ _ _ hlo hd]
    by_cases hij : i = j
    · rw [if_pos hij, if_pos hij]
    · rw [if_neg hij, if_neg hij]
      have := dg_part m 0 j i (by omega)
      simpa using this

theorem uw_setC (k m j d : Nat) (hd : d < C) : (uw k m).setIfInBounds j (.int .u32 (d : Nat)) = uw k (setC m j d) := by
  apply Array.ext_getElem?
  intro i
  rw [Array.getElem?_setIfInBounds]
  by_cases hk : i < k
  · rw [uw_get k _ i hk, uw_get k _ i hk, dg_setC m j d i hd, uw_size]
    by_cases h : j = i
    · subst h; simp [hk]
    · rw [if_neg h, if_neg (by omega)]
  · have e1 : (uw k m)[i]? = none := Array.getElem?_eq_none (by simp; omega)
    have e2 : (uw k (setC m j d))[i]? = none := Array.getElem?_eq_none (by simp; omega)
    rw [e1, e2, uw_size]
    split
    · rename_i h; subst h; rw [if_neg hk]
    · rfl

theorem setC_lt (m j d k : Nat) (hm : m < C ^ k) (hd : d < C) (hj : j < k) : setC m j d < C ^ k := by
  have h : setC m j d % C ^ k = setC m j d := by
    have : setC m j d / C ^ k = 0 := by
      have e : C ^ k = C ^ (j + 1) * C ^ (k - (j + 1)) := by rw [← Nat.pow_add]; congr 1; omega
      have hlow : m % C ^ j + d * C ^ j < C ^ (j + 1) := by
        have hlo : m % C ^ j < C ^ j := Nat.mod_lt _ (Cp_pos j)
        rw [Nat.pow_succ, Nat.mul_comm (C ^ j)]
        have : (d + 1) * C ^ j ≤ C * C ^ j := Nat.mul_le_mul_right _ hd
        rw [Nat.add_mul, Nat.one_mul] at this
        omega
      unfold setC
      rw [e, ← Nat.div_div_eq_div_mul, Nat.add_mul_div_right _ _ (Cp_pos (j + 1)), Nat.div_eq_of_lt hlow, Nat.zero_add, Nat.div_div_eq_div_mul, ← e]
      exact Nat.div_eq_of_lt hm
    rw [Nat.mod_eq_of_lt]
    exact (Nat.div_eq_zero_iff_lt (Cp_pos k)).1 this
  rw [← h]
  exact Nat.mod_lt _ (Cp_pos k)


section
variable {P : Program} {ops : Array Oper} {rest : List Oper} {Q : Exit → Act → World → Prop} {a : Act} {w w0 : World} {S : List Nat} {L : List (Nat × Obj)}
theorem run_opLoadOld {o : Oper} {T : TypeId} {x : Operand} {b i : Nat} {cs : Array Value} {E : TypeId} {fr : Nat × Nat} {v : Value} (hk : Keeps [] w0 w) (hT : CellT P T) (ho : o.op = .load T x) (hx : a.eval x = .pointer (some ⟨b, i, none⟩))
    (hb : w0.heap[b]? = some (.cells cs E fr)) (hv : cs[i]? = some v) : (execOp a.eval o).run P w = .ok (.value v) w := by
  have hb' : w.heap[b]? = some (.cells cs E fr) := by rw [hk.block b (lt_of_some hb) (by simp)]; exact hb
  unfold execOp
  simp only [ho, hx, Sem.run_bind, run_loadCell hT hb' hv, Sem.run_pure, Result.andThen_ok]
/-- make, of elements of one cell. -/
theorem wl_make {o : Oper} {T e : TypeId} {x y : Operand} {z : Value} {n bytes : Nat} {cs : Array Value} (hst : St w0 S L w) (hT : SliceT P T e) (he : ElemT P e 1 z) (hby : BytesT P e bytes) (hg : o.guard = none) (ho : o.op = .makeSlice T x y)
    (hx : a.eval x = .int .i64 (n : Int)) (hy : a.eval y = .int .i64 (n : Int)) (hcs : madeCells z.cells n = cs) (hroom : bytes * n ≤ 281474976710656) (hn : n ≤ 9223372036854775807)
    (h : ∀ b w', w0.heap.size ≤ b → St w0 S ((b, .cells cs e) :: L) w' → wpList P ops Q rest (a.put o.dst (.slice (some ⟨b, 0, none⟩) n n)) w') : wpList P ops Q (o :: rest) a w := by
  obtain ⟨i, hi, hisz, hz⟩ := he
  have hby' : i.bytes = bytes := by simpa [BytesT, hi] using hby
  have hr := run_make (P := P) w T e i z hT hi hz .i64 .i64 n n (by omega) (by omega) (by rw [hby']; have : ((bytes * n : Nat) : Int) ≤ 281474976710656 := by omega
                                                                                          rwa [Int.natCast_mul] at this) (by omega)
  simp only [Int.toNat_natCast, hisz, Nat.mul_one, hcs] at hr
  refine wpList_plain hg fun K hK => ?_
  unfold Oper.wp execOp
  simp only [ho, hx, hy, Sem.run_bind, hr, Sem.run_pure, Result.andThen_ok]
  exact hK _ _ (h _ _ hst.keeps.size (hst.alloc _))
end

theorem made_u32 (n : Nat) : madeCells #[.int .u32 0] n = uw n 0 := by
  unfold madeCells uw
  apply Array.ext
  · simp
  · intro i h1 h2
    simp [dg, Nat.mod_one]

/-- A slice of a block of digits. -/
theorem big_of_uw {w0 : World} {L : List (Nat × Obj)} {g l n : Nat} {E : TypeId} (hn : n < C ^ l) (hl : l ≤ 1000000) (hg : w0.heap.size ≤ g) (hm : (g, .cells (uw l n) E (0, 0)) ∈ L) :
    (∀ S w, St w0 S L w → BigAt w (.slice (some ⟨g, 0, none⟩) l l) l n) ∧ BigIn w0.heap.size [(g, .cells (uw l n) E (0, 0))] (.slice (some ⟨g, 0, none⟩) (dl n) l) n := by
  have hd : dl n ≤ l := dl_le.2 hn
  exact ⟨fun S w hst => ⟨hn, hl, _, l, rfl, Nat.le_refl _, fun _ => ⟨g, _, E, rfl, hst.own _ _ hm, fun j hj => uw_get l n j hj⟩⟩, by simpa using hg, by simp, by omega, _, l, rfl, hd, fun _ => ⟨g, _, E, rfl, by simp, fun j hj => uw_get l n j (by omega)⟩⟩

/-- A step of a product's carry. -/
theorem mul_step (m j c x y : Nat) (hc : c < C) (hx : x < C) (hy : y < C) :
    c + dg m j + x * y < C * C ∧ (c + dg m j + x * y) / C < C ∧ setC m j ((c + dg m j + x * y) % C) + (c + dg m j + x * y) / C * C ^ (j + 1) = m + c * C ^ j + x * y * C ^ j := by
  have hd := dg_lt m j
  have h := setC_eq m j ((c + dg m j + x * y) % C)
  have hlt : c + dg m j + x * y < C * C := by
    have h1 : x * y ≤ (C - 1) * (C - 1) := Nat.mul_le_mul (by omega) (by omega)
    have h2 : (C - 1) * (C - 1) + (C - 1) + (C - 1) < C * C := by decide
    omega
  have e := Nat.div_add_mod (c + dg m j + x * y) C
  refine ⟨hlt, (Nat.div_lt_iff_lt_mul C_pos).2 hlt, ?_⟩
  generalize (c + dg m j + x * y) / C = q at *
  generalize (c + dg m j + x * y) % C = r at *
  have e2 : (C * q + r) * C ^ j = (c + dg m j + x * y) * C ^ j := by rw [e]
  rw [Nat.add_mul, Nat.add_mul, Nat.add_mul] at e2
  have e3 : q * C ^ (j + 1) = C * q * C ^ j := by rw [Nat.pow_succ', ← Nat.mul_assoc, Nat.mul_comm q]
  omega

end Go.Proofs.YtggchelniblipaaGreatDoor.Rd

namespace Go.Proofs.YtggchelniblipaaGreatDoor.Rd
open Go Go.RowKit
set_option linter.unusedVariables false
set_option linter.unusedSimpArgs false
set_option maxRecDepth 100000

/-- New blocks: all from s on, each once. -/
def NewIn (s : Nat) (Lg : List (Nat × Obj)) : Prop := (∀ x ∈ Lg, s ≤ x.1) ∧ (Lg.map Prod.fst).Nodup
/-- What a call brings: a value and new blocks, as R says. -/
def PostN (R : List (Nat × Obj) → Value → Prop) (w0 : World) (e : Ending) (w' : World) : Prop := ∃ v Lg, e = .returned v ∧ Keeps [] w0 w' ∧ NewIn w0.heap.size Lg ∧ R Lg v ∧ ∀ b o, (b, o) ∈ Lg → w'.heap[b]? = some o
def GivesN (P : Program) (f : FuncId) (args : Array Value) (R : List (Nat × Obj) → Value → Prop) (w0 : World) : Prop := Calls P f args w0 (PostN R w0)
theorem PostN.of {R : List (Nat × Obj) → Value → Prop} {w0 w : World} {v : Value} {Lg L : List (Nat × Obj)} (hst : St w0 [] L w) (hn : NewIn w0.heap.size Lg) (hR : R Lg v) (hs : ∀ x ∈ Lg, x ∈ L) : PostN R w0 (.returned v) w := ⟨v, Lg, rfl, hst.keeps, hn, hR, fun b o h => hst.own b o (hs _ h)⟩

theorem St.morel {w0 w w' : World} {S : List Nat} {L Lg : List (Nat × Obj)} (h : St w0 S L w) (k : Keeps [] w w') (hn : NewIn w.heap.size Lg) (h3 : ∀ b o, (b, o) ∈ Lg → w'.heap[b]? = some o) : St w0 S (Lg ++ L) w' := by
  have hk := h.keep k
  refine ⟨hk.keeps, fun b o hm => ?_, ?_⟩
  · rcases List.mem_append.1 hm with h' | h'
    · exact h3 _ _ h'
    · exact hk.own _ _ h'
  · rw [List.map_append]
    refine List.nodup_append.2 ⟨hn.2, h.nodup, ?_⟩
    intro b hb b' hb' e
    subst e
    obtain ⟨x, hx, rfl⟩ := List.mem_map.1 hb
    obtain ⟨y, hy, e⟩ := List.mem_map.1 hb'
    have := h.lt (b := y.1) (o := y.2) hy
    have := hn.1 x hx
    rw [e] at *
    omega

/-- In L the blocks of Ls hold what it says; with Ls' there it is L'. -/
inductive Swap : List (Nat × Obj) → List (Nat × Obj) → List (Nat × Obj) → List (Nat × Obj) → Prop
  | nil (L) : Swap [] [] L L
  | cons {b : Nat} {o o' : Obj} {Ls Ls' L L1 L'} : At b o o' L L1 → Swap Ls Ls' L1 L' → Swap ((b, o) :: Ls) ((b, o') :: Ls') L L'
theorem Swap.keys {Ls Ls' L L' : List (Nat × Obj)} (h : Swap Ls Ls' L L') : L'.map Prod.fst = L.map Prod.fst := by
  induction h with
  | nil => rfl
  | cons ha _ ih => rw [ih, ha.keys]
theorem Swap.mem {Ls Ls' L L' : List (Nat × Obj)} (h : Swap Ls Ls' L L') (hn : (L.map Prod.fst).Nodup) : ∀ b x, (b, x) ∈ L' → (b, x) ∈ Ls' ∨ (b ∉ Ls.map Prod.fst ∧ (b, x) ∈ L) := by
  induction h with
  | nil => intro b x hm; exact .inr ⟨by simp, hm⟩
  | cons ha hs ih =>
    intro b x hm
    rcases ih (by rw [ha.keys]; exact hn) b x hm with h' | ⟨h1, h2⟩
    · exact .inl (List.mem_cons_of_mem _ h')
    · rcases ha.mem' hn b x h2 with ⟨rfl, rfl⟩ | ⟨h3, h4⟩
      · exact .inl (List.mem_cons_self ..)
      · exact .inr ⟨by simp only [List.map_cons, List.mem_cons, not_or]; exact ⟨h3, h1⟩, h4⟩
theorem Swap.own {Ls Ls' L L' : List (Nat × Obj)} (h : Swap Ls Ls' L L') (hn : (Ls.map Prod.fst).Nodup) : ∀ x ∈ Ls, x ∈ L := by
  induction h with
  | nil => intro x hm; cases hm
  | @cons b o o' Ls Ls' L L1 L' ha hs ih =>
    simp only [List.map_cons, List.nodup_cons] at hn
    intro x hm
    rcases List.mem_cons.1 hm with rfl | hm
    · exact ha.mem
    · have h1 := ih hn.2 x hm
      have hne : x.1 ≠ b := fun e => hn.1 (e ▸ List.mem_map_of_mem (f := Prod.fst) hm)
      clear ih hs hm
      induction ha with
      | head L =>
        rcases List.mem_cons.1 h1 with rfl | h
        · exact absurd rfl hne
        · exact List.mem_cons_of_mem _ h
      | tail y L L' _ ih =>
        rcases List.mem_cons.1 h1 with rfl | h
        · exact List.mem_cons_self ..
        · exact List.mem_cons_of_mem _ (ih h)
theorem St.puts {w0 w w' : World} {S : List Nat} {Ls Ls' L L' : List (Nat × Obj)} (h : St w0 S L w) (hs : Swap Ls Ls' L L') (hb : ∀ x ∈ Ls, w0.heap.size ≤ x.1 ∨ x.1 ∈ S)
    (k : Keeps (Ls.map Prod.fst) w w') (hnew : ∀ b o, (b, o) ∈ Ls' → w'.heap[b]? = some o) : St w0 S L' w' :=
  ⟨h.keeps.trans k (fun x hx hlt => by
      obtain ⟨y, hy, rfl⟩ := List.mem_map.1 hx
      rcases hb y hy with h' | h'
      · omega
      · exact h'),
    fun b x hm => by
      rcases hs.mem h.nodup b x hm with h1 | ⟨h1, h2⟩
      · exact hnew _ _ h1
      · have hown := h.own b x h2
        rw [k.block b (lt_of_some hown) h1]
        exact hown,
    by rw [hs.keys]; exact h.nodup⟩

/-- Each of these blocks is new, or one that may turn. -/
inductive Mine (s : Nat) (S : List Nat) : List (Nat × Obj) → Prop
  | nil : Mine s S []
  | cons {b : Nat} {o : Obj} {L : List (Nat × Obj)} : (s ≤ b ∨ b ∈ S) → Mine s S L → Mine s S ((b, o) :: L)
theorem Mine.all {s : Nat} {S : List Nat} {L : List (Nat × Obj)} (h : Mine s S L) : ∀ x ∈ L, s ≤ x.1 ∨ x.1 ∈ S := by
  induction h with
  | nil => intro x hx; cases hx
  | cons h _ ih =>
    intro x hx
    rcases List.mem_cons.1 hx with rfl | hx
    · exact h
    · exact ih x hx

/-- A call that writes the blocks Ls, so that they are Ls' then. -/
def GivesT (P : Program) (f : FuncId) (args : Array Value) (v : Value) (Ls Ls' : List (Nat × Obj)) (w : World) : Prop := Calls P f args w fun e w' => e = .returned v ∧ Keeps (Ls.map Prod.fst) w w' ∧ ∀ b o, (b, o) ∈ Ls' → w'.heap[b]? = some o
theorem GivesT.of {S : List Nat} {w0 w : World} {v : Value} {Ls L' Ls' : List (Nat × Obj)} (hst : St w0 S L' w) (hS : S = Ls.map Prod.fst) (hs : ∀ x ∈ Ls', x ∈ L') : (Ending.returned v = .returned v) ∧ Keeps (Ls.map Prod.fst) w0 w ∧ ∀ b o, (b, o) ∈ Ls' → w.heap[b]? = some o :=
  ⟨rfl, hS ▸ hst.keeps, fun b o h => hst.own b o (hs _ h)⟩

section
variable {P : Program} {ops : Array Oper} {rest : List Oper} {Q : Exit → Act → World → Prop} {a : Act} {w w0 : World} {S : List Nat} {L L' : List (Nat × Obj)}
theorem kN {o : Oper} {c : Call} {x : Operand} {f : FuncId} {cap : Array Value} {args : List Value} {R : List (Nat × Obj) → Value → Prop} (hf : GoF P f) (hst : St w0 S L w) (hc : ∀ w, St w0 S L w → GivesN P f args.toArray R w)
    (ho : o.op = .call c) (hcal : c.callee = .value x) (hx : a.eval x = .func (.func f) #[] cap) (hargs : c.args.toList.map a.eval ++ cap.toList = args)
    (h : ∀ v Lg w', NewIn w0.heap.size Lg → R Lg v → St w0 S (L ++ Lg) w' → wpList P ops Q rest (a.put o.dst v) w') (hg : o.guard = none := by rfl) : wpList P ops Q (o :: rest) a w := by
  refine wpList_plain hg fun K hK => ?_
  unfold Oper.wp
  rw [run_execOp_call ho hcal hx, args_eq hargs, run_callFunc_go hf, Oper.upon_enter]
  refine (hc w hst).mono fun e w'' hh => ?_
  obtain ⟨v, Lg, rfl, hk, hn, hR, hown⟩ := hh
  exact hK _ _ (h v Lg w'' ⟨fun x hx => Nat.le_trans hst.keeps.size (hn.1 x hx), hn.2⟩ hR (hst.more hk hn.1 hn.2 hown))
theorem kT {o : Oper} {c : Call} {x : Operand} {f : FuncId} {cap : Array Value} {args : List Value} {v : Value} {Ls Ls' : List (Nat × Obj)} (hf : GoF P f) (hst : St w0 S L w) (hc : ∀ w, St w0 S L w → GivesT P f args.toArray v Ls Ls' w)
    (ho : o.op = .call c) (hcal : c.callee = .value x) (hx : a.eval x = .func (.func f) #[] cap) (hargs : c.args.toList.map a.eval ++ cap.toList = args)
    (h : ∀ w', St w0 S L' w' → wpList P ops Q rest (a.put o.dst v) w')
    (hsw : Swap Ls Ls' L L' := by repeat (first | exact Swap.nil _ | exact At.head _ | apply At.tail | apply Swap.cons))
    (hb : Mine w0.heap.size S Ls := by repeat (first | exact Mine.nil | refine Mine.cons (by first | exact Or.inl (by assumption) | (refine Or.inr ?_; simp)) ?_)) (hg : o.guard = none := by rfl) : wpList P ops Q (o :: rest) a w := by
  refine wpList_plain hg fun K hK => ?_
  unfold Oper.wp
  rw [run_execOp_call ho hcal hx, args_eq hargs, run_callFunc_go hf, Oper.upon_enter]
  refine (hc w hst).mono fun e w'' hh => ?_
  obtain ⟨rfl, hk, hown⟩ := hh
  exact hK _ _ (h w'' (hst.puts hsw hb.all hk hown))
end

/-- A slice of limbs in a block of its own. -/
def LimbIn (l n : Nat) (Lg : List (Nat × Obj)) (v : Value) : Prop := n < B ^ l ∧ l ≤ 100000 ∧ ∃ b cap k m E, v = .slice (some ⟨b, 0, none⟩) l cap ∧ l ≤ cap ∧ l ≤ k ∧ Lg = [(b, .cells (wc k m) E)] ∧ m % B ^ l = n
theorem LimbIn.at {l n : Nat} {Lg : List (Nat × Obj)} {v : Value} (h : LimbIn l n Lg v) {w0 w : World} {S : List Nat} {L : List (Nat × Obj)} (hst : St w0 S L w) (hs : ∀ x ∈ Lg, x ∈ L) : LimbAt w v l n := by
  obtain ⟨h1, h2, b, cap, k, m, E, rfl, h3, h4, rfl, h5⟩ := h
  exact ⟨h1, h2, b, cap, k, m, E, (0, 0), rfl, h3, h4, hst.own _ _ (hs _ (by simp)), h5⟩

theorem tl_mod (n : Nat) : ∀ k, n < B ^ k → n < B ^ tl n 0 k
  | 0, h => h
  | k + 1, h => by
    unfold tl
    split
    · rename_i h0
      rw [Nat.zero_add] at h0
      apply tl_mod n k
      have := lb_split n k
      rw [h0, Nat.zero_mul, Nat.add_zero, Nat.mod_eq_of_lt h] at this
      rw [this]; exact Nat.mod_lt _ (Bp_pos k)
    · exact h
theorem made_u64 (n : Nat) : madeCells #[.int .u64 0] n = wc n 0 := by
  apply Array.ext_getElem?
  intro i
  by_cases h : i < n
  · rw [wc_get _ _ _ h]
    have : lb 0 i = 0 := by unfold lb; simp
    rw [this]
    simp [madeCells, h, Nat.mod_one]
  · have h1 : (madeCells #[.int .u64 0] n).size = n := by unfold madeCells; simp
    rw [Array.getElem?_eq_none (by omega), Array.getElem?_eq_none (by rw [wc_size]; omega)]

set_option maxHeartbeats 4000000 in
theorem limb_made (g : FuncId) (hg : GoF Tryz.prog g) (cap : Array Value) (f : Nat → Nat) (n : Nat) (hn : n ≤ 2000) (hf : ∀ i, f i < B) (w0 : World)
    (hgf : ∀ i w, i < n → Keeps [] w0 w → GivesAt Tryz.prog g ([Value.int .i64 (i : Nat)] ++ cap.toList).toArray (.int .u64 (f i : Nat)) w) :
    GivesN Tryz.prog 177 #[.int .i64 n, .func (.func g) #[] cap] (LimbIn (tl (lsum f n) 0 n) (lsum f n)) w0 := by
  have hst := St.start [] w0
  have hf' := Lib.hid hf
  clear hf
  have hmade := Lib.hid (made_u64 n)
  go_enter Tryz.func177, Tryz.ntmps177
  go_wp2_with ((first | (refine wl_make (bytes := 8) (o := ⟨some 8, _, _, _, _, _⟩) hst (show SliceT _ 148 22 by unfold SliceT; kernel_rfl) (show ElemT _ 22 1 (.int .u64 0) from ElemT.of (by kernel_rfl)) (show BytesT _ _ _ by unfold BytesT; kernel_rfl) rfl rfl (by rfl) (by rfl) hmade.out (by omega) (by omega) ?_; clear hst; intro b8 w hb8 hst; (try simp only [pz, pn, sz, sc])) | (refine ks hst tc22 rfl rfl ?_; clear hst; intro w hst)); try simp only [pz, pn, sz, sc])
  go_loopw [6, 11] (fun u i wr => ∃ k : Nat, k ≤ n ∧ i = .int .i64 k ∧ St w0 [] [(b8, .cells (wc n (lsum f k)) 22)] wr) (fun _ i _ => n - (intOf i).toNat)
  case atStart => exact ⟨0, by omega, rfl, hst⟩
  case round =>
    clear hst
    obtain ⟨k, hk, rfl, hst⟩ := hrel
    have hl1 := Lib.hid (lsum_lt f hf'.out k)
    by_cases hlt : k < n
    · have hi0 : (0 : Int) ≤ (k : Int) := by omega
      have hi8 : (k : Int) < (n : Int) := by omega
      have hc := fun w h => hgf k w hlt h
      have hfk := Lib.hid (hf'.out k)
      have hset := Lib.hid (wc_set n (lsum f k) (f k) k hl1.out hfk.out)
      go_wp2_with ((first | (refine kg hg hst (fun w hst => hc w hst.keeps) rfl rfl rfl rfl ?_; clear hst; intro w hst) | (refine ks hst tc22 rfl rfl ?_; clear hst; intro w hst; (try rw [hset.out] at hst))); try simp only [pz, pn, sz, sc])
      go_roundw
      case rel => exact ⟨k + 1, by omega, by go_num, hst⟩
      case measure => simp [intOf]; omega
    · have : k = n := by omega
      subst this
      have hi8 : ¬ ((k : Int) < (k : Int)) := by omega
      have htrim := fun w h => limb_trim b8 0 k k k (lsum f k) 22 (0, 0) (by omega) (by omega) (by omega) w h
      clear hgf hmade
      go_wp2_with ((first | (refine kg gf107 hst (fun w hst => htrim w (hst.own _ _ (by repeat (first | exact List.Mem.head _ | refine List.Mem.tail _ ?_)))) rfl rfl rfl rfl ?_; clear hst; intro w hst) | (refine ks hst tc22 rfl rfl ?_; clear hst; intro w hst)); try simp only [pz, pn, sz, sc])
      have hlt := tl_mod _ k hl1.out
      have htl := tl_le (lsum f k) 0 k
      refine bp_t rfl rfl (by rfl) (PostN.of hst (Lg := [(b8, .cells (wc k (lsum f k)) 22)]) ⟨by simpa using hb8, by simp⟩ ⟨hlt, by omega, b8, _, k, lsum f k, _, rfl, by omega, by omega, rfl, Nat.mod_eq_of_lt hlt⟩ (fun x h => h))

end Go.Proofs.YtggchelniblipaaGreatDoor.Rd
