/- What prod.Square, Sum answer; roots in numbers; what root2.may, Root answer. -/
import Derived.Test.YtefpoconpeggpaaGreatDoorL12
import Derived.Test.YtefpoconpeggpaaGreatDoorL03
import Derived.Test.YtefpoconpeggpaaGreatDoorL08
namespace Go.Proofs.YtefpoconpeggpaaGreatDoor.Rd
open Go Go.RowKit
set_option linter.unusedVariables false
set_option linter.unusedSimpArgs false
set_option maxRecDepth 100000

theorem inner_all (a b i : Nat) : ∀ k, inner (fun _ => true) a b i k = lb a i * B ^ i * (b % B ^ k)
  | 0 => by simp [inner, Nat.mod_one]
  | k + 1 => by
    simp only [inner, if_true]
    rw [inner_all a b i k, lb_split b k, Nat.mul_add]
    congr 1
    rw [Nat.pow_add, Nat.mul_assoc, Nat.mul_assoc, Nat.mul_left_comm (lb b k)]
theorem outer_all (a b : Nat) (hb : b < M) : ∀ i, outer (fun _ => true) a b i = a % B ^ i * b
  | 0 => by simp [outer, Nat.mod_one]
  | i + 1 => by
    simp only [outer]
    rw [outer_all a b hb i, inner_all, lb_split a i, Nat.add_mul, ← M_eq, Nat.mod_eq_of_lt hb]
theorem outer_mul (a b : Nat) (ha : a < M) (hb : b < M) : outer (fun _ => true) a b 8 = a * b := by
  rw [outer_all a b hb, ← M_eq, Nat.mod_eq_of_lt ha]

theorem prod_all (k : Int) : Gives Tryz.prog 130 #[.int .i64 k] (.bool true) := by
  intro w0
  have hst := St.start [] w0
  go_enter Tryz.func130, Tryz.ntmps130
  go_wp2_with fail
  refine bp_t rfl rfl (by rfl) ⟨?_, hst.keeps⟩
  rfl

theorem mul_lt17 (a b : Nat) (ha : a < M) (hb : b < M) : a * b < B ^ 17 := by
  have h1 : a * b < M * M := Nat.mul_lt_mul'' ha hb
  have h2 : M * M = B ^ 16 := by rw [M_eq, ← Nat.pow_add]
  have h3 : B ^ 16 ≤ B ^ 17 := Nat.pow_le_pow_right B_pos (by omega)
  omega

theorem bl_beq (n : Nat) : bl n = 0 ↔ n = 0 := by
  constructor
  · intro h
    by_cases h0 : n = 0
    · exact h0
    · have := bl_pos h0; omega
  · intro h; subst h; rfl

theorem high_zero (n : Nat) (hn : n < B ^ 17) : bl (n / B ^ 8 % B ^ 9) = 0 ↔ n < M := by
  rw [bl_beq]
  have h1 : n / B ^ 8 < B ^ 9 := by
    rw [Nat.div_lt_iff_lt_mul (Bp_pos 8), ← Nat.pow_add]; exact hn
  rw [Nat.mod_eq_of_lt h1, Nat.div_eq_zero_iff_lt (Bp_pos 8), ← M_eq]

set_option maxHeartbeats 4000000 in
theorem prod_Mul (a b : Nat) (ha : a < M) (hb : b < M) : Gives Tryz.prog 103 #[W a, W b] (.tuple #[W (a * b % M), .bool (decide (a * b < M))]) := by
  intro w0
  have hst := St.start [] w0
  have hw := fun w => prod_whole a b 130 gf130 #[] (fun _ => true) w (fun w' _ k _ => prod_all k w')
  rw [outer_mul a b ha hb] at hw
  have hlt := mul_lt17 a b ha hb
  have hh := high_zero (a * b) hlt
  generalize a * b = n at *
  have hof := fun (b6 : Nat) w (h : w.heap[b6]? = some (.cells (wc 17 n) 189 (0, 0))) => wide_Of b6 0 8 17 17 n 189 (0, 0) (by omega) w h
  rw [Nat.pow_zero, Nat.div_one, show min 8 8 = 8 from rfl, ← M_eq] at hof
  have hlen := fun (b6 : Nat) w (h : w.heap[b6]? = some (.cells (wc 17 n) 189 (0, 0))) => limb_Len b6 8 9 9 17 n 189 (0, 0) (by omega) (by omega) (by omega) w h
  have hres : ((bl (n / B ^ 8 % B ^ 9) : Int) == 0) = decide (n < M) := by rw [cast_beq0]; simp [hh]
  generalize bl (n / B ^ 8 % B ^ 9) = q at *
  clear hh
  have hres' := Lib.hid hres
  clear hres
  go_enter Tryz.func103, Tryz.ntmps103
  go_wp2_with ((first | (refine kf gf129 hst (hw) rfl rfl rfl rfl ?_; clear hst; intro w hst) | (refine kb 2 hst rfl rfl ?_; clear hst; intro b2 w hb2 hst) | (refine kb 3 hst rfl rfl ?_; clear hst; intro b3 w hb3 hst) | (refine ka 4 hst tz44 rfl rfl ?_; clear hst; intro b4 w hb4 hst) | (refine kl hst ta44 rfl ?_) | (refine ka 6 hst tz189 rfl rfl ?_; clear hst; intro b6 w hb6 hst) | (refine kt hst ta189 rfl rfl ?_; clear hst; intro w hst)); try simp only [pz, pn, sz, sc])
  refine wp_region_T 5  hst (by kernel_rfl) ?_; clear hst; intro w hst; (try simp only [List.length_cons, List.length_nil, Nat.reduceAdd, Array.replicate_succ, Array.replicate_zero, List.push_toArray, List.nil_append, List.cons_append])
  refine r0 0 ?_; simp only [pz, pn, sz, sc]
  refine r0 2 ?_; simp only [pz, pn, sz, sc]
  refine r1 1 ?_; (refine kg gf131 hst (fun w hst => hof b6 w (hst.own _ _ (by repeat (first | exact List.Mem.head _ | refine List.Mem.tail _ ?_)))) rfl rfl rfl rfl ?_; clear hst; intro w hst); (try simp only [pz, pn, sz, sc]); refine re ?_
  refine r1 3 ?_; (refine kg gf73 hst (fun w hst => hlen b6 w (hst.own _ _ (by repeat (first | exact List.Mem.head _ | refine List.Mem.tail _ ?_)))) rfl rfl rfl rfl ?_; clear hst; intro w hst); (try simp only [pz, pn, sz, sc]); refine re ?_
  refine r0 4 ?_; simp only [pz, pn, sz, sc]
  refine r1 5 ?_; (refine kt hst ta44 rfl rfl ?_; clear hst; intro w hst); (try simp only [pz, pn, sz, sc]); refine re ?_
  refine r0 6 ?_; simp only [pz, pn, sz, sc]
  refine rd_ ?_
  go_wp2_with fail
  refine bp_ct rfl rfl (la hst ta44) (by rfl) ⟨?_, hst.keeps⟩
  rw [hres'.out]; rfl

end Go.Proofs.YtefpoconpeggpaaGreatDoor.Rd

namespace Go.Proofs.YtefpoconpeggpaaGreatDoor.Rd
open Go Go.RowKit
set_option linter.unusedVariables false
set_option linter.unusedSimpArgs false
set_option maxRecDepth 100000

/-- The limb at a place; 0 below. -/
def lat (n : Nat) (i : Int) : Nat := if i < 0 then 0 else lb n i.toNat
theorem lat_lt (n : Nat) (i : Int) : lat n i < B := by unfold lat; split; exact B_pos; exact lb_lt _ _
theorem limb_atI (v : Value) (l n : Nat) (i : Int) (w0 : World) (h : LimbAt w0 v l n) : GivesAt Tryz.prog 134 #[v, .int .i64 i] (.int .u64 (lat n i : Nat)) w0 := by
  unfold lat
  by_cases hi : i < 0
  · rw [if_pos hi]; exact limb_at_no v l n i hi w0 h
  · rw [if_neg hi]
    obtain ⟨j, rfl⟩ := Int.eq_ofNat_of_zero_le (show 0 ≤ i by omega)
    exact limb_at v l n j w0 h
theorem lat_bit (n : Nat) (i : Int) (j : Nat) (hj : j < 64) : (lat n i).testBit j = if i < 0 then false else n.testBit (64 * i.toNat + j) := by
  unfold lat
  split
  · simp
  · rw [lb_testBit]; simp [hj]

def upL (n c i : Nat) : Nat := lat n ((i : Int) - (c / 64 : Nat)) * 2 ^ (c % 64) % B ||| lat n ((i : Int) - (c / 64 : Nat) - 1) / 2 ^ (64 - c % 64)
def dnL (n c i : Nat) : Nat := lat n ((i : Int) + (c / 64 : Nat)) / 2 ^ (c % 64) ||| lat n ((i : Int) + (c / 64 : Nat) + 1) * 2 ^ (64 - c % 64) % B
theorem upL_lt (n c i : Nat) : upL n c i < B := or_B (Nat.mod_lt _ B_pos) (Nat.lt_of_le_of_lt (Nat.div_le_self _ _) (lat_lt _ _))
theorem dnL_lt (n c i : Nat) : dnL n c i < B := or_B (Nat.lt_of_le_of_lt (Nat.div_le_self _ _) (lat_lt _ _)) (Nat.mod_lt _ B_pos)
theorem up_limb (n c i : Nat) : upL n c i = lb (n * 2 ^ c) i := by
  apply Nat.eq_of_testBit_eq
  intro j
  have hr : c % 64 < 64 := Nat.mod_lt _ (by omega)
  have hq : c = 64 * (c / 64) + c % 64 := by omega
  by_cases hj : j < 64
  · rw [lb_testBit, Nat.mul_comm n, Nat.testBit_two_pow_mul]
    unfold upL
    rw [Nat.testBit_or, mod_B, Nat.mul_comm (lat _ _), Nat.testBit_two_pow_mul, Nat.testBit_div_two_pow]
    generalize c / 64 = q at *
    generalize c % 64 = r at *
    subst hq
    simp only [hj, decide_true, Bool.true_and]
    by_cases h1 : r ≤ j
    · have h2 : (lat n ((i : Int) - q - 1)).testBit (j + (64 - r)) = false := high_bit (lat_lt _ _) (by omega)
      rw [h2, lat_bit _ _ _ (by omega)]
      simp only [h1, decide_true, Bool.true_and, Bool.or_false]
      by_cases h4 : i < q
      · rw [if_pos (by omega)]
        have : ¬ (64 * q + r ≤ 64 * i + j) := by omega
        simp [this]
      · rw [if_neg (by omega)]
        have : 64 * q + r ≤ 64 * i + j := by omega
        simp only [this, decide_true, Bool.true_and]
        congr 1; omega
    · have h2 : decide (r ≤ j) = false := by simpa using h1
      rw [h2]
      simp only [Bool.false_and, Bool.false_or]
      rw [lat_bit _ _ _ (by omega)]
      by_cases h4 : i < q + 1
      · rw [if_pos (by omega)]
        have : ¬ (64 * q + r ≤ 64 * i + j) := by omega
        simp [this]
      · rw [if_neg (by omega)]
        have : 64 * q + r ≤ 64 * i + j := by omega
        simp only [this, decide_true, Bool.true_and]
        congr 1; omega
  · rw [high_bit (upL_lt n c i) (by omega), high_bit (lb_lt _ _) (by omega)]
theorem dn_limb (n c i : Nat) : dnL n c i = lb (n / 2 ^ c) i := by
  apply Nat.eq_of_testBit_eq
  intro j
  have hr : c % 64 < 64 := Nat.mod_lt _ (by omega)
  have hq : c = 64 * (c / 64) + c % 64 := by omega
  by_cases hj : j < 64
  · rw [lb_testBit, Nat.testBit_div_two_pow]
    unfold dnL
    rw [Nat.testBit_or, mod_B, Nat.mul_comm (lat _ _), Nat.testBit_two_pow_mul, Nat.testBit_div_two_pow]
    generalize c / 64 = q at *
    generalize c % 64 = r at *
    subst hq
    simp only [hj, decide_true, Bool.true_and]
    by_cases h1 : j + r < 64
    · have h2 : decide (64 - r ≤ j) = false := by simp; omega
      rw [h2, lat_bit _ _ _ h1]
      simp only [Bool.false_and, Bool.or_false]
      rw [if_neg (by omega)]
      congr 1; omega
    · have h2 : decide (64 - r ≤ j) = true := by simp; omega
      rw [high_bit (lat_lt n _) (show 64 ≤ j + r by omega), h2, lat_bit _ _ _ (show j - (64 - r) < 64 by omega)]
      simp only [Bool.false_or, Bool.true_and]
      rw [if_neg (by omega)]
      congr 1; omega
  · rw [high_bit (dnL_lt n c i) (by omega), high_bit (lb_lt _ _) (by omega)]

theorem St.of3 {w0 : World} {b1 b2 b3 : Nat} {o1 o2 o3 : Obj} (hn : [b3, b2, b1].Nodup) (h1 : w0.heap[b1]? = some o1) (h2 : w0.heap[b2]? = some o2) (h3 : w0.heap[b3]? = some o3) : St w0 [] [(b3, o3), (b2, o2), (b1, o1)] w0 :=
  ⟨Keeps.refl _ _, fun b o h => by simp only [List.mem_cons, Prod.mk.injEq, List.not_mem_nil, or_false] at h; rcases h with ⟨rfl, rfl⟩ | ⟨rfl, rfl⟩ | ⟨rfl, rfl⟩ <;> assumption, hn⟩

set_option maxHeartbeats 4000000 in
theorem limb_Shift_1 (v : Value) (l n c i : Nat) (hc : c ≤ 2000) (hi : i ≤ 2000) (b1 b2 b3 : Nat) (E1 E2 E3 : TypeId) (hn : [b3, b2, b1].Nodup) (w0 : World) (hv : LimbAt w0 v l n)
    (h1 : w0.heap[b1]? = some (.cells #[v] E1)) (h2 : w0.heap[b2]? = some (.cells #[.int .i64 (c / 64 : Nat)] E2)) (h3 : w0.heap[b3]? = some (.cells #[.int .i64 (c % 64 : Nat)] E3)) :
    GivesAt Tryz.prog 261 #[.int .i64 (i : Nat), .pointer (some ⟨b1, 0, none⟩), .pointer (some ⟨b2, 0, none⟩), .pointer (some ⟨b3, 0, none⟩)] (.int .u64 (upL n c i : Nat)) w0 := by
  have hst := St.of3 hn h1 h2 h3
  have hx := fun w (k : Keeps [] w0 w) => limb_atI v l n ((i : Int) - (c / 64 : Nat)) w (hv.keep k)
  have hy := fun w (k : Keeps [] w0 w) => limb_atI v l n ((i : Int) - (c / 64 : Nat) - 1) w (hv.keep k)
  have hxB := lat_lt n ((i : Int) - (c / 64 : Nat))
  have hyB := lat_lt n ((i : Int) - (c / 64 : Nat) - 1)
  unfold upL
  have hq : c / 64 ≤ 2000 := by omega
  have hr : c % 64 < 64 := Nat.mod_lt _ (by omega)
  generalize c / 64 = q at *
  generalize c % 64 = r at *
  generalize lat n ((i : Int) - (q : Nat)) = x at *
  generalize lat n ((i : Int) - (q : Nat) - 1) = y at *
  obtain ⟨s, hs⟩ : ∃ s, s = x * 2 ^ r % B := ⟨_, rfl⟩
  obtain ⟨t, ht⟩ : ∃ t, t = y / 2 ^ (64 - r) := ⟨_, rfl⟩
  have hsB : s < B := by rw [hs]; exact Nat.mod_lt _ B_pos
  have htB : t < B := by rw [ht]; exact Nat.lt_of_le_of_lt (Nat.div_le_self _ _) hyB
  rw [← hs, ← ht]
  have F1 : IntKind.u64.wrap ((x : Int) * 2 ^ r) = (s : Int) := u64_wrap' _ (x * 2 ^ r) _ (by rw [cast_pow2]; exact (Int.natCast_mul _ _).symm) hs.symm
  have F2 : (y : Int) / 2 ^ (64 - r) = (t : Int) := by rw [ht, cast_pow2]; omega
  have F3 := bits_or64 s t hsB htB
  have w1 : IntKind.i64.wrap ((i : Int) - (q : Int)) = (i : Int) - q := i64w _ (by omega) (by omega)
  have w2 : IntKind.i64.wrap ((i : Int) - (q : Int) - 1) = (i : Int) - q - 1 := i64w _ (by omega) (by omega)
  have w3 : IntKind.i64.wrap (64 - (r : Int)) = ((64 - r : Nat) : Int) := by rw [i64w _ (by omega) (by omega)]; omega
  obtain ⟨_, _, b, cap, k, m, E, fr, rfl, _⟩ := hv
  clear hs ht hsB htB hxB hyB h1 h2 h3 hn
  go_enter Tryz.func261, Tryz.ntmps261
  go_wp2_with fail
  refine wp_region_T 18  hst (by kernel_rfl) ?_; clear hst; intro w hst; (try simp only [List.length_cons, List.length_nil, Nat.reduceAdd, Array.replicate_succ, Array.replicate_zero, List.push_toArray, List.nil_append, List.cons_append])
  refine r0 1 ?_; simp only [pz, pn, sz, sc, w1, w2, w3, F1, F2, F3]
  refine r0 8 ?_; simp only [pz, pn, sz, sc, w1, w2, w3, F1, F2, F3]
  refine rl 0 rfl ?_ (ylC tc123); simp only [pz, pn, sz, sc, w1, w2, w3, F1, F2, F3]
  refine rl 2 rfl ?_ (ylC tc3); simp only [pz, pn, sz, sc, w1, w2, w3, F1, F2, F3]
  refine r0 3 ?_; simp only [pz, pn, sz, sc, w1, w2, w3, F1, F2, F3]
  refine rl 5 rfl ?_ (ylC tc3); simp only [pz, pn, sz, sc, w1, w2, w3, F1, F2, F3]
  refine rl 7 rfl ?_ (ylC tc123); simp only [pz, pn, sz, sc, w1, w2, w3, F1, F2, F3]
  refine rl 9 rfl ?_ (ylC tc3); simp only [pz, pn, sz, sc, w1, w2, w3, F1, F2, F3]
  refine r0 10 ?_; simp only [pz, pn, sz, sc, w1, w2, w3, F1, F2, F3]
  refine r0 11 ?_; simp only [pz, pn, sz, sc, w1, w2, w3, F1, F2, F3]
  refine rl 13 rfl ?_ (ylC tc3); simp only [pz, pn, sz, sc, w1, w2, w3, F1, F2, F3]
  refine r0 14 ?_; simp only [pz, pn, sz, sc, w1, w2, w3, F1, F2, F3]
  refine r1 4 ?_; (refine kg gf134 hst (fun w hst => hx w hst.keeps) rfl rfl rfl rfl ?_; clear hst; intro w hst); (try simp only [pz, pn, sz, sc, w1, w2, w3, F1, F2, F3]); refine re ?_
  refine r0 6 ?_; simp only [pz, pn, sz, sc, w1, w2, w3, F1, F2, F3]
  refine r1 12 ?_; (refine kg gf134 hst (fun w hst => hy w hst.keeps) rfl rfl rfl rfl ?_; clear hst; intro w hst); (try simp only [pz, pn, sz, sc, w1, w2, w3, F1, F2, F3]); refine re ?_
  refine r0 15 ?_; simp only [pz, pn, sz, sc, w1, w2, w3, F1, F2, F3]
  refine r0 16 ?_; simp only [pz, pn, sz, sc, w1, w2, w3, F1, F2, F3]
  refine r0 17 ?_; simp only [pz, pn, sz, sc, w1, w2, w3, F1, F2, F3]
  refine rd_ ?_
  go_wp2_with fail
  refine bp_t rfl rfl (by rfl) ⟨?_, hst.keeps⟩
  rfl

set_option maxHeartbeats 4000000 in
theorem limb_Shift_2 (v : Value) (l n c i : Nat) (hc : c ≤ 2000) (hi : i ≤ 2000) (b1 b2 b3 : Nat) (E1 E2 E3 : TypeId) (hn : [b3, b2, b1].Nodup) (w0 : World) (hv : LimbAt w0 v l n)
    (h1 : w0.heap[b1]? = some (.cells #[v] E1)) (h2 : w0.heap[b2]? = some (.cells #[.int .i64 (c / 64 : Nat)] E2)) (h3 : w0.heap[b3]? = some (.cells #[.int .i64 (c % 64 : Nat)] E3)) :
    GivesAt Tryz.prog 262 #[.int .i64 (i : Nat), .pointer (some ⟨b1, 0, none⟩), .pointer (some ⟨b2, 0, none⟩), .pointer (some ⟨b3, 0, none⟩)] (.int .u64 (dnL n c i : Nat)) w0 := by
  have hst := St.of3 hn h1 h2 h3
  have hx := fun w (k : Keeps [] w0 w) => limb_atI v l n ((i : Int) + (c / 64 : Nat)) w (hv.keep k)
  have hz := fun w (k : Keeps [] w0 w) => limb_atI v l n ((i : Int) + (c / 64 : Nat) + 1) w (hv.keep k)
  have hxB := lat_lt n ((i : Int) + (c / 64 : Nat))
  have hzB := lat_lt n ((i : Int) + (c / 64 : Nat) + 1)
  unfold dnL
  have hq : c / 64 ≤ 2000 := by omega
  have hr : c % 64 < 64 := Nat.mod_lt _ (by omega)
  generalize c / 64 = q at *
  generalize c % 64 = r at *
  generalize lat n ((i : Int) + (q : Nat)) = x at *
  generalize lat n ((i : Int) + (q : Nat) + 1) = z at *
  obtain ⟨s, hs⟩ : ∃ s, s = x / 2 ^ r := ⟨_, rfl⟩
  obtain ⟨t, ht⟩ : ∃ t, t = z * 2 ^ (64 - r) % B := ⟨_, rfl⟩
  have hsB : s < B := by rw [hs]; exact Nat.lt_of_le_of_lt (Nat.div_le_self _ _) hxB
  have htB : t < B := by rw [ht]; exact Nat.mod_lt _ B_pos
  rw [← hs, ← ht]
  have F1 : IntKind.u64.wrap ((z : Int) * 2 ^ (64 - r)) = (t : Int) := u64_wrap' _ (z * 2 ^ (64 - r)) _ (by rw [cast_pow2]; exact (Int.natCast_mul _ _).symm) ht.symm
  have F2 : (x : Int) / 2 ^ r = (s : Int) := by rw [hs, cast_pow2]; omega
  have F3 := bits_or64 s t hsB htB
  have w1 : IntKind.i64.wrap ((i : Int) + (q : Int)) = (i : Int) + q := i64w _ (by omega) (by omega)
  have w2 : IntKind.i64.wrap ((i : Int) + (q : Int) + 1) = (i : Int) + q + 1 := i64w _ (by omega) (by omega)
  have w3 : IntKind.i64.wrap (64 - (r : Int)) = ((64 - r : Nat) : Int) := by rw [i64w _ (by omega) (by omega)]; omega
  obtain ⟨_, _, b, cap, k, m, E, fr, rfl, _⟩ := hv
  clear hs ht hsB htB hxB hzB h1 h2 h3 hn
  go_enter Tryz.func262, Tryz.ntmps262
  go_wp2_with fail
  refine wp_region_T 18  hst (by kernel_rfl) ?_; clear hst; intro w hst; (try simp only [List.length_cons, List.length_nil, Nat.reduceAdd, Array.replicate_succ, Array.replicate_zero, List.push_toArray, List.nil_append, List.cons_append])
  refine r0 1 ?_; simp only [pz, pn, sz, sc, w1, w2, w3, F1, F2, F3]
  refine r0 8 ?_; simp only [pz, pn, sz, sc, w1, w2, w3, F1, F2, F3]
  refine rl 0 rfl ?_ (ylC tc123); simp only [pz, pn, sz, sc, w1, w2, w3, F1, F2, F3]
  refine rl 2 rfl ?_ (ylC tc3); simp only [pz, pn, sz, sc, w1, w2, w3, F1, F2, F3]
  refine r0 3 ?_; simp only [pz, pn, sz, sc, w1, w2, w3, F1, F2, F3]
  refine rl 5 rfl ?_ (ylC tc3); simp only [pz, pn, sz, sc, w1, w2, w3, F1, F2, F3]
  refine rl 7 rfl ?_ (ylC tc123); simp only [pz, pn, sz, sc, w1, w2, w3, F1, F2, F3]
  refine rl 9 rfl ?_ (ylC tc3); simp only [pz, pn, sz, sc, w1, w2, w3, F1, F2, F3]
  refine r0 10 ?_; simp only [pz, pn, sz, sc, w1, w2, w3, F1, F2, F3]
  refine r0 11 ?_; simp only [pz, pn, sz, sc, w1, w2, w3, F1, F2, F3]
  refine rl 13 rfl ?_ (ylC tc3); simp only [pz, pn, sz, sc, w1, w2, w3, F1, F2, F3]
  refine r0 14 ?_; simp only [pz, pn, sz, sc, w1, w2, w3, F1, F2, F3]
  refine r1 4 ?_; (refine kg gf134 hst (fun w hst => hx w hst.keeps) rfl rfl rfl rfl ?_; clear hst; intro w hst); (try simp only [pz, pn, sz, sc, w1, w2, w3, F1, F2, F3]); refine re ?_
  refine r0 6 ?_; simp only [pz, pn, sz, sc, w1, w2, w3, F1, F2, F3]
  refine r1 12 ?_; (refine kg gf134 hst (fun w hst => hz w hst.keeps) rfl rfl rfl rfl ?_; clear hst; intro w hst); (try simp only [pz, pn, sz, sc, w1, w2, w3, F1, F2, F3]); refine re ?_
  refine r0 15 ?_; simp only [pz, pn, sz, sc, w1, w2, w3, F1, F2, F3]
  refine r0 16 ?_; simp only [pz, pn, sz, sc, w1, w2, w3, F1, F2, F3]
  refine r0 17 ?_; simp only [pz, pn, sz, sc, w1, w2, w3, F1, F2, F3]
  refine rd_ ?_
  go_wp2_with fail
  refine bp_t rfl rfl (by rfl) ⟨?_, hst.keeps⟩
  rfl

/-- Some slice of limbs that holds n. -/
def LimbR (u n : Nat) (Lg : List (Nat × Obj)) (v : Value) : Prop := ∃ l, l ≤ u ∧ LimbIn l n Lg v
theorem LimbR.mono {u u' n : Nat} {Lg : List (Nat × Obj)} {v : Value} (h : LimbR u n Lg v) (hu : u ≤ u') : LimbR u' n Lg v := by
  obtain ⟨l, hl, h⟩ := h; exact ⟨l, by omega, h⟩
theorem GivesN.mono {P : Program} {f : FuncId} {args : Array Value} {R R' : List (Nat × Obj) → Value → Prop} {w0 : World} (h : GivesN P f args R w0) (hR : ∀ Lg v, R Lg v → R' Lg v) : GivesN P f args R' w0 :=
  Calls.mono h fun _ _ ⟨v, Lg, h1, h2, h3, h4, h5⟩ => ⟨v, Lg, h1, h2, h3, hR _ _ h4, h5⟩

set_option maxHeartbeats 4000000 in
theorem limb_Shift_up (v : Value) (l n c : Nat) (hl : l ≤ 100) (hc : c ≤ 2000) (w0 : World) (hv : LimbAt w0 v l n) : GivesN Tryz.prog 258 #[v, .int .i64 c] (LimbR (l + c / 64 + 1) (n * 2 ^ c)) w0 := by
  have hst := St.start [] w0
  have hN : n * 2 ^ c < B ^ (l + c / 64 + 1) := by
    obtain ⟨h1, _⟩ := hv
    rw [two_pow_limb c, Nat.pow_add, Nat.pow_add, Nat.pow_one, ← Nat.mul_assoc]
    have h2 : 2 ^ (c % 64) < B := Nat.pow_lt_pow_right (by omega) (by omega)
    have h3 : n * 2 ^ (c % 64) < B ^ l * B := Nat.mul_lt_mul'' h1 h2
    have h4 : 0 < B ^ (c / 64) := Bp_pos _
    have := Nat.mul_lt_mul_of_pos_right h3 h4
    rw [Nat.mul_assoc (B ^ l) B, Nat.mul_comm B (B ^ (c / 64)), ← Nat.mul_assoc] at this
    exact this
  have hs : lsum (upL n c) (l + c / 64 + 1) = n * 2 ^ c := by
    rw [lsum_congr (g := lb (n * 2 ^ c)) (fun i _ => up_limb n c i), lsum_lb, Nat.mod_eq_of_lt hN]
  have hmade := fun b2 b5 b6 w (k : Keeps [] w0 w) (hn : [b6, b5, b2].Nodup) (h1 : w.heap[b2]? = some (.cells #[v] 123)) (h2 : w.heap[b5]? = some (.cells #[.int .i64 (c / 64 : Nat)] 3)) (h3 : w.heap[b6]? = some (.cells #[.int .i64 (c % 64 : Nat)] 3)) =>
    limb_made 261 gf261 #[.pointer (some ⟨b2, 0, none⟩), .pointer (some ⟨b5, 0, none⟩), .pointer (some ⟨b6, 0, none⟩)] (upL n c) (l + c / 64 + 1) (by omega) (upL_lt n c) w
      (fun i w' hi k' => limb_Shift_1 v l n c i hc (by omega) b2 b5 b6 _ _ _ hn w' (hv.keep (k.trans k' (by simp))) (k'.at h1) (k'.at h2) (k'.at h3))
  rw [hs] at hmade
  have htl := tl_le (n * 2 ^ c) 0 (l + c / 64 + 1)
  generalize tl (n * 2 ^ c) 0 (l + c / 64 + 1) = t at *
  generalize n * 2 ^ c = m at *
  have Q1 : (c : Int) / 64 = ((c / 64 : Nat) : Int) := by omega
  have Q2 : (c : Int) % 64 = ((c % 64 : Nat) : Int) := by omega
  have Q3 : (0 : Int) ≤ (c : Int) := by omega
  have Q4 : ¬ ((65536 : Int) < (c : Int)) := by omega
  have Q7 : ¬ ((c : Int) < (-65536 : Int)) := by omega
  have Q5 : (c : Int).tdiv 64 = ((c / 64 : Nat) : Int) := by rw [Int.tdiv_eq_ediv_of_nonneg (by omega)]; exact Q1
  have Q6 : (c : Int).tmod 64 = ((c % 64 : Nat) : Int) := by rw [Int.tmod_eq_emod_of_nonneg (by omega)]; exact Q2
  have hq : c / 64 ≤ 32 := by omega
  have hr : c % 64 < 64 := Nat.mod_lt _ (by omega)
  have hN' : ((l + c / 64 + 1 : Nat) : Int) = (l : Int) + ((c / 64 : Nat) : Int) + 1 := by omega
  rw [hN'] at hmade
  have hR : ∀ Lg v, LimbIn t m Lg v → LimbR (l + c / 64 + 1) m Lg v := fun Lg v h => ⟨t, by omega, h⟩
  obtain ⟨_, _, b, cap, k, m', E, fr, rfl, _⟩ := hv
  clear hN hs htl hN'
  generalize c / 64 = q at *
  generalize c % 64 = r at *
  go_enter Tryz.func258, Tryz.ntmps258
  go_wp2_with ((first | (refine kN (o := ⟨some 29, _, _, _, _, _⟩) gf260 hst (fun w hst => hmade b2 b5 b6 w hst.keeps (List.Nodup.sublist (by repeat (first | exact List.Sublist.refl _ | exact List.nil_sublist _ | refine List.Sublist.cons_cons _ ?_ | refine List.Sublist.cons _ ?_)) hst.nodup) (hst.own _ _ (by repeat (first | exact List.Mem.head _ | refine List.Mem.tail _ ?_))) (hst.own _ _ (by repeat (first | exact List.Mem.head _ | refine List.Mem.tail _ ?_))) (hst.own _ _ (by repeat (first | exact List.Mem.head _ | refine List.Mem.tail _ ?_)))) rfl rfl rfl rfl ?_; clear hst; intro v29 Lg29 w hn29 hR29 hst; (try simp only [List.cons_append, List.nil_append, List.append_nil, List.append_assoc] at hst); (try simp only [pz, pn, sz, sc])) | (refine kb 2 hst rfl rfl ?_; clear hst; intro b2 w hb2 hst) | (refine ka 5 hst tz3 rfl rfl ?_; clear hst; intro b5 w hb5 hst) | (refine ka 6 hst tz3 rfl rfl ?_; clear hst; intro b6 w hb6 hst) | (refine ks hst tc3 rfl rfl ?_; clear hst; intro w hst) | (refine kc hst tc123 rfl ?_) | (refine kc hst tc3 rfl ?_)); try simp only [pz, pn, sz, sc])
  exact bp_t rfl rfl (by rfl) (PostN.of hst hn29 (hR _ _ hR29) (fun x h => by simp [h]))

set_option maxHeartbeats 4000000 in
theorem limb_Shift_down (v : Value) (l n c : Nat) (hl : l ≤ 100) (hc : c ≤ 2000) (hc0 : 0 < c) (w0 : World) (hv : LimbAt w0 v l n) : GivesN Tryz.prog 258 #[v, .int .i64 (-(c : Int))] (LimbR l (n / 2 ^ c)) w0 := by
  have hst := St.start [] w0
  have hN : n / 2 ^ c < B ^ (l - c / 64) := by
    obtain ⟨h1, _⟩ := hv
    rw [two_pow_limb c, Nat.mul_comm, ← Nat.div_div_eq_div_mul]
    refine Nat.lt_of_le_of_lt (Nat.div_le_self _ _) ?_
    rw [Nat.div_lt_iff_lt_mul (Bp_pos _), ← Nat.pow_add]
    exact Nat.lt_of_lt_of_le h1 (Nat.pow_le_pow_right B_pos (by omega))
  have hs : lsum (dnL n c) (l - c / 64) = n / 2 ^ c := by
    rw [lsum_congr (g := lb (n / 2 ^ c)) (fun i _ => dn_limb n c i), lsum_lb, Nat.mod_eq_of_lt hN]
  have hmade := fun b2 b7 b8 w (k : Keeps [] w0 w) (hn : [b8, b7, b2].Nodup) (h1 : w.heap[b2]? = some (.cells #[v] 123)) (h2 : w.heap[b7]? = some (.cells #[.int .i64 (c / 64 : Nat)] 3)) (h3 : w.heap[b8]? = some (.cells #[.int .i64 (c % 64 : Nat)] 3)) =>
    limb_made 262 gf262 #[.pointer (some ⟨b2, 0, none⟩), .pointer (some ⟨b7, 0, none⟩), .pointer (some ⟨b8, 0, none⟩)] (dnL n c) (l - c / 64) (by omega) (dnL_lt n c) w
      (fun i w' hi k' => limb_Shift_2 v l n c i hc (by omega) b2 b7 b8 _ _ _ hn w' (hv.keep (k.trans k' (by simp))) (k'.at h1) (k'.at h2) (k'.at h3))
  rw [hs] at hmade
  have htl := tl_le (n / 2 ^ c) 0 (l - c / 64)
  generalize tl (n / 2 ^ c) 0 (l - c / 64) = t at *
  generalize n / 2 ^ c = m at *
  have Q1 : (c : Int) / 64 = ((c / 64 : Nat) : Int) := by omega
  have Q2 : (c : Int) % 64 = ((c % 64 : Nat) : Int) := by omega
  have Q3 : ¬ ((0 : Int) ≤ -(c : Int)) := by omega
  have Q4 : ¬ ((65536 : Int) < -(c : Int)) := by omega
  have Q7 : ¬ (-(c : Int) < (-65536 : Int)) := by omega
  have Q5 : (c : Int).tdiv 64 = ((c / 64 : Nat) : Int) := by rw [Int.tdiv_eq_ediv_of_nonneg (by omega)]; exact Q1
  have Q6 : (c : Int).tmod 64 = ((c % 64 : Nat) : Int) := by rw [Int.tmod_eq_emod_of_nonneg (by omega)]; exact Q2
  have hq : c / 64 ≤ 32 := by omega
  have hr : c % 64 < 64 := Nat.mod_lt _ (by omega)
  have hN' : ((l - c / 64 : Nat) : Int) = max 0 ((l : Int) - ((c / 64 : Nat) : Int)) := by omega
  have hR : ∀ Lg v, LimbIn t m Lg v → LimbR l m Lg v := fun Lg v h => ⟨t, by omega, h⟩
  obtain ⟨_, _, b, cap, k, m', E, fr, rfl, _⟩ := hv
  have hmx : max 0 ((l : Int) - ((c / 64 : Nat) : Int)) = ((l - c / 64 : Nat) : Int) := hN'.symm
  clear hN hs htl hN'
  generalize l - c / 64 = u at *
  generalize c / 64 = q at *
  generalize c % 64 = r at *
  go_enter Tryz.func258, Tryz.ntmps258
  go_wp2_with ((first | (refine kN (o := ⟨some 42, _, _, _, _, _⟩) gf260 hst (fun w hst => hmade b2 b7 b8 w hst.keeps (List.Nodup.sublist (by repeat (first | exact List.Sublist.refl _ | exact List.nil_sublist _ | refine List.Sublist.cons_cons _ ?_ | refine List.Sublist.cons _ ?_)) hst.nodup) (hst.own _ _ (by repeat (first | exact List.Mem.head _ | refine List.Mem.tail _ ?_))) (hst.own _ _ (by repeat (first | exact List.Mem.head _ | refine List.Mem.tail _ ?_))) (hst.own _ _ (by repeat (first | exact List.Mem.head _ | refine List.Mem.tail _ ?_)))) rfl rfl rfl rfl ?_; clear hst; intro v42 Lg42 w hn42 hR42 hst; (try simp only [List.cons_append, List.nil_append, List.append_nil, List.append_assoc] at hst); (try simp only [pz, pn, sz, sc])) | (refine kb 2 hst rfl rfl ?_; clear hst; intro b2 w hb2 hst) | (refine ks hst tc3 rfl rfl ?_; clear hst; intro w hst) | (refine kc hst tc123 rfl ?_) | (refine kc hst tc3 rfl ?_) | (refine ka 7 hst tz3 rfl rfl ?_; clear hst; intro b7 w hb7 hst) | (refine ka 8 hst tz3 rfl rfl ?_; clear hst; intro b8 w hb8 hst)); try simp only [pz, pn, sz, sc])
  exact bp_t rfl rfl (by rfl) (PostN.of hst hn42 (hR _ _ hR42) (fun x h => by simp [h]))

end Go.Proofs.YtefpoconpeggpaaGreatDoor.Rd

namespace Go.Proofs.YtefpoconpeggpaaGreatDoor.Rd
open Go Go.RowKit
set_option linter.unusedVariables false
set_option linter.unusedSimpArgs false
set_option maxRecDepth 100000

theorem wide_Of_limb (v : Value) (l n : Nat) (w0 : World) (h : LimbAt w0 v l n) : GivesAt Tryz.prog 131 #[v] (W (n % M)) w0 := by
  obtain ⟨hn, hl, b, cap, k, m, E, fr, rfl, h3, h4, h5, h6⟩ := h
  have := wide_Of b 0 l cap k m E fr (by omega) w0 h5
  rw [Nat.pow_zero, Nat.div_one] at this
  have e : m % B ^ (min l 8) = n % M := by
    rw [← h6, M_eq]
    by_cases hl8 : l ≤ 8
    · rw [show min l 8 = l by omega, Nat.mod_eq_of_lt (Nat.lt_of_lt_of_le (Nat.mod_lt _ (Bp_pos l)) (Nat.pow_le_pow_right B_pos hl8))]
    · rw [show min l 8 = 8 by omega, Nat.mod_mod_of_dvd]
      exact Nat.pow_dvd_pow B (by omega)
  rw [e] at this
  exact this

theorem LimbAt.arr {w : World} {b k n : Nat} {E : TypeId} {fr : Nat × Nat} (hn : n < B ^ k) (hk : k ≤ 100000) (h : w.heap[b]? = some (.cells (wc k n) E fr)) : LimbAt w (.slice (some ⟨b, 0, none⟩) k k) k n :=
  ⟨hn, hk, b, k, k, n, E, fr, rfl, Nat.le_refl _, Nat.le_refl _, h, Nat.mod_eq_of_lt hn⟩

set_option maxHeartbeats 8000000 in
theorem prod_High (a b c : Nat) (ha : a < M) (hb : b < M) (hc : c ≤ 1024) : Gives Tryz.prog 253 #[W a, W b, .int .i64 c] (.tuple #[W (a * b / 2 ^ c % M), .bool (decide (a * b / 2 ^ c * 2 ^ c < a * b))]) := by
  intro w0
  have hst := St.start [] w0
  have hw := fun w => prod_whole a b 130 gf130 #[] (fun _ => true) w (fun w' _ k _ => prod_all k w')
  rw [outer_mul a b ha hb] at hw
  have hlt := mul_lt17 a b ha hb
  generalize a * b = n at *
  have hp := fun (w : World) (b8 : Nat) (h : w.heap[b8]? = some (.cells (wc 17 n) 189)) => LimbAt.arr hlt (by omega) h
  have m1 : min (c : Int) 1024 = (c : Int) := by omega
  have m2 : max (0 : Int) (c : Int) = (c : Int) := by omega
  have h1 := fun (w : World) (b8 : Nat) (h : w.heap[b8]? = some (.cells (wc 17 n) 189)) => (show GivesN Tryz.prog 258 #[.slice (some ⟨b8, 0, none⟩) 17 17, .int .i64 (-(c : Int))] (LimbR 18 (n / 2 ^ c)) w by
    by_cases h0 : c = 0
    · subst h0
      have := limb_Shift_up _ 17 n 0 (by omega) (by omega) w (hp w b8 h)
      simpa using this.mono (fun Lg v h => LimbR.mono h (show 17 + 0 / 64 + 1 ≤ 18 by omega))
    · exact (limb_Shift_down _ 17 n c (by omega) (by omega) (by omega) w (hp w b8 h)).mono (fun Lg v h => LimbR.mono h (by omega)))
  have hqn : n / 2 ^ c < B ^ 17 := Nat.lt_of_le_of_lt (Nat.div_le_self _ _) hlt
  have h2 := fun (w : World) (v : Value) (l : Nat) (hl : l ≤ 100) (h : LimbAt w v l (n / 2 ^ c)) => limb_Shift_up v l (n / 2 ^ c) c hl (by omega) w h
  have h3 := fun (w : World) (v : Value) (l : Nat) (h : LimbAt w v l (n / 2 ^ c)) => wide_Of_limb v l (n / 2 ^ c) w h
  have h4 := fun (w : World) (v : Value) (l b8 : Nat) (h : LimbAt w v l (n / 2 ^ c * 2 ^ c)) (h8 : w.heap[b8]? = some (.cells (wc 17 n) 189)) => limb_Less v _ l 17 _ n w h (hp w b8 h8)
  obtain ⟨d, hd⟩ : ∃ d, decide (n / 2 ^ c * 2 ^ c < n) = d := ⟨_, rfl⟩
  rw [hd] at h4
  rw [hd]
  clear hd
  generalize n / 2 ^ c * 2 ^ c = s at *
  generalize n / 2 ^ c = q at *
  clear hp
  go_enter Tryz.func253, Tryz.ntmps253
  go_wp2_with ((first | (refine kf gf129 hst (hw) rfl rfl rfl rfl ?_; clear hst; intro w hst) | (refine kN (o := ⟨some 20, _, _, _, _, _⟩) gf258 hst (fun w hst => h1 w b8 (hst.own _ _ (by repeat (first | exact List.Mem.head _ | refine List.Mem.tail _ ?_)))) rfl rfl rfl rfl ?_; clear hst; intro v20 Lg20 w hn20 hR20 hst; obtain ⟨l20, hl20, hR20⟩ := hR20; (try simp only [List.cons_append, List.nil_append, List.append_nil, List.append_assoc] at hst); (try simp only [pz, pn, sz, sc])) | (refine kN (o := ⟨some 23, _, _, _, _, _⟩) gf258 hst (fun w hst => h2 w v20 l20 (by omega) (hR20.at hst (fun x h => by simp [h]))) rfl rfl rfl rfl ?_; clear hst; intro v23 Lg23 w hn23 hR23 hst; obtain ⟨l23, hl23, hR23⟩ := hR23; (try simp only [List.cons_append, List.nil_append, List.append_nil, List.append_assoc] at hst); (try simp only [pz, pn, sz, sc])) | (refine kb 3 hst rfl rfl ?_; clear hst; intro b3 w hb3 hst) | (refine kb 4 hst rfl rfl ?_; clear hst; intro b4 w hb4 hst) | (refine ka 6 hst tz44 rfl rfl ?_; clear hst; intro b6 w hb6 hst) | (refine kl hst ta44 rfl ?_) | (refine ka 8 hst tz189 rfl rfl ?_; clear hst; intro b8 w hb8 hst) | (refine kt hst ta189 rfl rfl ?_; clear hst; intro w hst)); try simp only [pz, pn, sz, sc])
  refine wp_region_T 5  hst (by kernel_rfl) ?_; clear hst; intro w hst; (try simp only [List.length_cons, List.length_nil, Nat.reduceAdd, Array.replicate_succ, Array.replicate_zero, List.push_toArray, List.nil_append, List.cons_append])
  refine r0 0 ?_; simp only [pz, pn, sz, sc]
  refine r0 2 ?_; simp only [pz, pn, sz, sc]
  refine r0 3 ?_; simp only [pz, pn, sz, sc]
  refine r1 1 ?_; (refine kg gf131 hst (fun w hst => h3 w v20 l20 (hR20.at hst (fun x h => by simp [h]))) rfl rfl rfl rfl ?_; clear hst; intro w hst); (try simp only [pz, pn, sz, sc]); refine re ?_
  refine r1 4 ?_; (refine kg gf176 hst (fun w hst => h4 w v23 l23 b8 (hR23.at hst (fun x h => by simp [h])) (hst.own _ _ (by simp))) rfl rfl rfl rfl ?_; clear hst; intro w hst); (try simp only [pz, pn, sz, sc]); refine re ?_
  refine r1 5 ?_; (refine kt hst ta44 rfl rfl ?_; clear hst; intro w hst); (try simp only [pz, pn, sz, sc]); refine re ?_
  refine r0 6 ?_; simp only [pz, pn, sz, sc]
  refine rd_ ?_
  go_wp2_with fail
  refine bp_ct rfl rfl (la hst ta44) (by rfl) ⟨?_, hst.keeps⟩
  rfl

end Go.Proofs.YtefpoconpeggpaaGreatDoor.Rd

namespace Go.Proofs.YtefpoconpeggpaaGreatDoor.Rd
open Go Go.RowKit
set_option linter.unusedVariables false
set_option linter.unusedSimpArgs false
set_option maxRecDepth 100000

theorem prod_Square (a : Nat) (ha : a < M) : Gives Tryz.prog 71 #[W a] (.tuple #[W (a * a % M), .bool (decide (a * a < M))]) := by
  intro w0
  have hst := St.start [] w0
  have h := prod_Mul a a ha ha
  generalize a * a = s at *
  go_enter Tryz.func71, Tryz.ntmps71
  go_wp2_with ((first | (refine kf gf103 hst (h) rfl rfl rfl rfl ?_; clear hst; intro w hst) | (refine kb 1 hst rfl rfl ?_; clear hst; intro b1 w hb1 hst) | (refine ka 2 hst tz44 rfl rfl ?_; clear hst; intro b2 w hb2 hst) | (refine kl hst ta44 rfl ?_) | (refine kt hst ta44 rfl rfl ?_; clear hst; intro w hst)); try simp only [pz, pn, sz, sc])
  refine bp_ct rfl rfl (la hst ta44) (by rfl) ⟨?_, hst.keeps⟩
  rfl

theorem sum_take (l : List Nat) (k n : Nat) (h : l[k]? = some n) : (l.take (k + 1)).sum = (l.take k).sum + n := by
  rw [List.take_add_one, h]; simp

set_option maxHeartbeats 4000000 in
theorem prod_Sum (l : List Nat) (b cap : Nat) (E : TypeId) (fr : Nat × Nat) (hl : ∀ x ∈ l, x < M) (hlen : l.length ≤ 100) (w0 : World) (hb : w0.heap[b]? = some (.cells (wcs l) E fr)) :
    GivesAt Tryz.prog 72 #[.slice (some ⟨b, 0, none⟩) l.length cap] (W (l.sum % M)) w0 := by
  have hst := (St.start [] w0).add hb (by simp)
  have hz : (l.take 0).sum % M = 0 := by simp
  have hl' := Lib.hid hl
  clear hb hl
  go_enter Tryz.func72, Tryz.ntmps72
  go_wp2_with ((first | (refine ka 2 hst tz44 rfl rfl ?_; clear hst; intro b2 w hb2 hst) | (refine ka 3 hst tz44 rfl rfl ?_; clear hst; intro b3 w hb3 hst)); try simp only [pz, pn, sz, sc])
  go_loopw [5, 8] (fun u i wr => ∃ k : Nat, k ≤ l.length ∧ i = .int .i64 k ∧ St w0 [] [(b3, .cells (wc 8 ((l.take k).sum % M)) 44), (b2, .cells (wc 8 0) 44), (b, .cells (wcs l) E fr)] wr) (fun _ i _ => l.length - (intOf i).toNat)
  case atStart => exact ⟨0, by omega, rfl, by rw [hz]; exact hst⟩
  case round =>
    clear hst hz
    obtain ⟨k, hk, rfl, hst⟩ := hrel
    by_cases hlt : k < l.length
    · have hi0 : (0 : Int) ≤ (k : Int) := by omega
      have hi8 : (k : Int) < (l.length : Int) := by omega
      have hk100 : k < 100 := by omega
      obtain ⟨n, hn⟩ : ∃ n, l[k]? = some n := ⟨l[k], List.getElem?_eq_getElem hlt⟩
      have hnM : n < M := hl'.out n (List.mem_of_getElem? hn)
      have hadd := wide_Add ((l.take k).sum % M) n (Nat.mod_lt _ M_pos) hnM
      have hs : ((l.take k).sum % M + n) % M = (l.take (k + 1)).sum % M := by rw [sum_take l k n hn, Nat.mod_add_mod]
      rw [hs] at hadd
      clear hs
      have hn' := Lib.hid hn
      clear hnM
      go_wp2_with ((first | (refine kf gf104 hst (hadd) rfl rfl rfl rfl ?_; clear hst; intro w hst) | (refine kl hst ta44 rfl ?_) | (refine klm hst ta44 rfl ?_) | (refine ka 5 hst tz44 rfl rfl ?_; clear hst; intro b5 w hb5 hst) | (refine kt hst ta44 rfl rfl ?_; clear hst; intro w hst)); try simp only [pz, pn, sz, sc])
      go_roundw
      case rel => exact ⟨k + 1, by omega, by go_num, hst.sub (by repeat (first | exact List.Sublist.refl _ | exact List.nil_sublist _ | refine List.Sublist.cons_cons _ ?_ | refine List.Sublist.cons _ ?_))⟩
      case measure => simp [intOf]; omega
    · have : k = l.length := by omega
      have hi8 : ¬ ((k : Int) < (l.length : Int)) := by omega
      have e : (l.take k).sum % M = l.sum % M := by rw [this, List.take_length]
      rw [e] at hst
      clear e this hlt
      go_wp2_with ((first | (refine kl hst ta44 rfl ?_) | (refine kt hst ta44 rfl rfl ?_; clear hst; intro w hst)); try simp only [pz, pn, sz, sc])
      refine bp_c rfl rfl (la hst ta44) ⟨?_, hst.keeps⟩
      rfl

/-- The root's digits so far. -/
def rootS (n : Nat) : Nat → Nat
  | 0 => 0
  | k + 1 => if (2 * rootS n k + 1) * (2 * rootS n k + 1) * 4 ^ (127 - k) ≤ n then 2 * rootS n k + 1 else 2 * rootS n k
theorem rootS_inv (n : Nat) (hn : n < 4 ^ 128) : ∀ k, k ≤ 128 → rootS n k < 2 ^ k ∧ rootS n k * rootS n k * 4 ^ (128 - k) ≤ n ∧ n < (rootS n k + 1) * (rootS n k + 1) * 4 ^ (128 - k)
  | 0, _ => by simp [rootS]; exact hn
  | k + 1, hk => by
    obtain ⟨h1, h2, h3⟩ := rootS_inv n hn k (by omega)
    have e1 : 128 - (k + 1) = 127 - k := by omega
    have e2 : 128 - k = (127 - k) + 1 := by omega
    rw [e2, Nat.pow_succ] at h2 h3
    rw [e1]
    simp only [rootS]
    have e3 : 2 ^ (k + 1) = 2 * 2 ^ k := by rw [Nat.pow_succ, Nat.mul_comm]
    rw [e3]
    generalize rootS n k = s at *
    generalize 4 ^ (127 - k) = f at *
    generalize 2 ^ k = p at *
    have g1 : 2 * s * (2 * s) * f = s * s * (f * 4) := by grind
    have g2 : (2 * s + 1 + 1) * (2 * s + 1 + 1) * f = (s + 1) * (s + 1) * (f * 4) := by grind
    split
    · rename_i h; exact ⟨by omega, h, by rw [g2]; exact h3⟩
    · rename_i h; exact ⟨by omega, by rw [g1]; exact h2, by omega⟩
/-- The root of a number below 2^256. -/
def isqrt (n : Nat) : Nat := rootS n 128
def IsRoot (n s : Nat) : Prop := s * s ≤ n ∧ n < (s + 1) * (s + 1)
theorem isqrt_spec {n : Nat} (hn : n < 4 ^ 128) : IsRoot n (isqrt n) ∧ isqrt n < 2 ^ 128 := by
  have h := rootS_inv n hn 128 (by omega)
  simp only [Nat.sub_self, Nat.pow_zero, Nat.mul_one] at h
  exact ⟨⟨h.2.1, h.2.2⟩, h.1⟩
theorem IsRoot.uniq {n s t : Nat} (h1 : IsRoot n s) (h2 : IsRoot n t) : s = t := by
  have key : ∀ a b, IsRoot n a → IsRoot n b → ¬ a < b := fun a b ha hb h => by
    have := Nat.mul_le_mul (show a + 1 ≤ b from h) (show a + 1 ≤ b from h)
    have := ha.2
    have := hb.1
    omega
  have := key s t h1 h2
  have := key t s h2 h1
  omega

theorem root2_may (n : Nat) (hn : n < M) : Gives Tryz.prog 219 #[W n] (.int .i64 (if n < 2 ^ 256 then 0 else 4)) := by
  intro w0
  have hst := St.start [] w0
  have hl := wide_Len n hn
  have hb := @bl_le n 256
  generalize bl n = k at *
  by_cases h : n < 2 ^ 256
  · rw [if_pos h]
    have hk : ¬ ((256 : Int) < (k : Int)) := by have := hb.2 h; omega
    clear hb h
    go_enter Tryz.func219, Tryz.ntmps219
    go_wp2_with ((first | (refine kf gf47 hst (hl) rfl rfl rfl rfl ?_; clear hst; intro w hst) | (refine kb 1 hst rfl rfl ?_; clear hst; intro b1 w hb1 hst) | (refine kl hst ta44 rfl ?_)); try simp only [pz, pn, sz, sc])
    refine bp_t rfl rfl (by rfl) ⟨?_, hst.keeps⟩
    rfl
  · rw [if_neg h]
    have hk : ((256 : Int) < (k : Int)) := by
      rcases Nat.lt_or_ge 256 k with h' | h'
      · omega
      · exact absurd (hb.1 h') h
    clear hb h
    go_enter Tryz.func219, Tryz.ntmps219
    go_wp2_with ((first | (refine kf gf47 hst (hl) rfl rfl rfl rfl ?_; clear hst; intro w hst) | (refine kb 1 hst rfl rfl ?_; clear hst; intro b1 w hb1 hst) | (refine kl hst ta44 rfl ?_)); try simp only [pz, pn, sz, sc])
    refine bp_t rfl rfl (by rfl) ⟨?_, hst.keeps⟩
    rfl

theorem Swap.two {b1 b2 : Nat} {o1 o2 : Obj} {w0 : World} (hne : b2 ≠ b1) (h1 : w0.heap[b1]? = some o1) (h2 : w0.heap[b2]? = some o2) (S : List Nat) : St w0 S [(b1, o1), (b2, o2)] w0 :=
  ⟨Keeps.refl _ _, fun b o h => by simp only [List.mem_cons, Prod.mk.injEq, List.not_mem_nil, or_false] at h; rcases h with ⟨rfl, rfl⟩ | ⟨rfl, rfl⟩ <;> assumption, by simp; exact fun e => hne e.symm⟩

set_option maxHeartbeats 4000000 in
theorem root2_Root_1 (d s r m b1 b2 : Nat) (hd : d ≤ 1) (hs : 2 * s + 1 < M) (E1 E2 : TypeId) (hne : b2 ≠ b1) (w0 : World) (h1 : w0.heap[b1]? = some (.cells (wc 8 s) E1)) (h2 : w0.heap[b2]? = some (.cells (wc 8 r) E2)) :
    GivesT Tryz.prog 221 #[.int .i64 d, W m, .pointer (some ⟨b1, 0, none⟩), .pointer (some ⟨b2, 0, none⟩)] (.tuple #[]) [(b1, .cells (wc 8 s) E1), (b2, .cells (wc 8 r) E2)] [(b1, .cells (wc 8 (2 * s + d)) E1), (b2, .cells (wc 8 m) E2)] w0 := by
  have hst := Swap.two hne h1 h2 [b1, b2]
  have hof := fun b w h => wide_Of b 0 1 1 1 d 22 (0, 0) (by omega) w h
  have hdB : d < B := by rw [B_val]; omega
  rw [Nat.pow_zero, Nat.div_one, show min 1 8 = 1 from rfl, Nat.mod_eq_of_lt (show d < B ^ 1 by rw [Nat.pow_one]; exact hdB)] at hof
  have h1' := Lib.hid (wc_1 d hdB)
  have hsum := fun b w h => prod_Sum [s, s, d] b 3 44 (0, 0) (by intro x hx; simp at hx; omega) (by simp) w h
  have e : [s, s, d].sum % M = 2 * s + d := by rw [show [s, s, d].sum = 2 * s + d by simp; omega, Nat.mod_eq_of_lt (by omega)]
  rw [e] at hsum
  have hw : IntKind.u64.wrap (d : Int) = (d : Int) := by rw [u64_wrap, Nat.mod_eq_of_lt hdB]
  clear e hs h1 h2
  go_enter Tryz.func221, Tryz.ntmps221
  go_wp2_with ((first | (refine kb 5 hst rfl rfl ?_; clear hst; intro b5 w hb5 hst)); try simp only [pz, pn, sz, sc])
  refine wp_region_T 8  hst (by kernel_rfl) ?_; clear hst; intro w hst; (try simp only [List.length_cons, List.length_nil, Nat.reduceAdd, Array.replicate_succ, Array.replicate_zero, List.push_toArray, List.nil_append, List.cons_append])
  refine r0 2 ?_; simp only [pz, pn, sz, sc, hw]
  refine r0 3 ?_; simp only [pz, pn, sz, sc, hw]
  refine rl 0 rfl ?_ (by first | exact ylA ta44 | exact ylM ta44); simp only [pz, pn, sz, sc, hw]
  refine rl 1 rfl ?_ (by first | exact ylA ta44 | exact ylM ta44); simp only [pz, pn, sz, sc, hw]
  refine r1 4 ?_; (refine wl_slice1 (o := ⟨some 10, _, _, _, _, _⟩) hst ts123 te22 rfl rfl (by (simp only [eval_lit, eval_k, eval_f, eval_g, List.getD_cons_succ, List.getD_cons_zero]) <;> rfl) (by rfl) ?_; clear hst; intro b10 w hb10 hst); (try simp only [pz, pn, sz, sc, hw]); refine re ?_
  refine r1 5 ?_; (refine kg gf131 hst (fun w hst => hof _ w (by rw [← h1'.out]; exact hst.own _ _ (by simp))) rfl rfl rfl rfl ?_; clear hst; intro w hst); (try simp only [pz, pn, sz, sc, hw]); refine re ?_
  refine r1 6 ?_; (refine kS 12 hst ts162_ (tw44_3 _ _ _) rfl rfl ?_; clear hst; intro b12 w hb12 hst); (try simp only [pz, pn, sz, sc, hw]); refine re ?_
  refine r1 7 ?_; (refine kg gf72 hst (fun w hst => hsum _ w (hst.own _ _ (by simp))) rfl rfl rfl rfl ?_; clear hst; intro w hst); (try simp only [pz, pn, sz, sc, hw]); refine re ?_
  refine r1 8 ?_; (refine kt hst ta44 rfl rfl ?_; clear hst; intro w hst); (try simp only [pz, pn, sz, sc, hw]); refine re ?_
  refine rd_ ?_
  go_wp2_with ((first | (refine kl hst ta44 rfl ?_) | (refine kt hst ta44 rfl rfl ?_; clear hst; intro w hst)); try simp only [pz, pn, sz, sc])
  exact bp_0 rfl rfl (GivesT.of hst rfl (by simp))

end Go.Proofs.YtefpoconpeggpaaGreatDoor.Rd
