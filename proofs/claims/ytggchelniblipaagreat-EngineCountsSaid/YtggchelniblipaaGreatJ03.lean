/- Whether two structs are the same. -/
import Derived.Test.YtggchelniblipaaGreatJ02
namespace Go.Proofs.YtggchelniblipaaGreat.Rd
open Go Go.RowKit
set_option linter.unusedVariables false
set_option linter.unusedSimpArgs false
set_option maxRecDepth 100000

/-- A slice of limbs that holds n. -/
def LimbAt (w : World) (v : Value) (l n : Nat) : Prop := n < B ^ l ∧ l ≤ 100000 ∧ ∃ b cap k m E fr, v = .slice (some ⟨b, 0, none⟩) l cap ∧ l ≤ cap ∧ l ≤ k ∧ w.heap[b]? = some (.cells (wc k m) E fr) ∧ m % B ^ l = n
theorem LimbAt.keep {w w' : World} {v : Value} {l n : Nat} (h : LimbAt w v l n) (k : Keeps [] w w') : LimbAt w' v l n := by
  obtain ⟨h1, h2, b, cap, j, m, E, fr, e, h3, h4, h5, h6⟩ := h
  exact ⟨h1, h2, b, cap, j, m, E, fr, e, h3, h4, by rw [k.block b (lt_of_some h5) (by simp)]; exact h5, h6⟩
theorem lb_mod {m l i : Nat} (h : i < l) : lb (m % B ^ l) i = lb m i := by
  have := lb_part m 0 l i h
  rwa [Nat.pow_zero, Nat.div_one, Nat.zero_add] at this

theorem limb_at_no (v : Value) (l n : Nat) (i : Int) (hi : i < 0) (w0 : World) (h : LimbAt w0 v l n) : GivesAt Tryz.prog 107 #[v, .int .i64 i] (.int .u64 0) w0 := by
  obtain ⟨hn, hl, b, cap, k, m, E, fr, rfl, h3, h4, h5, h6⟩ := h
  have hst := St.start [] w0
  clear hn h5 h6
  go_enter Tryz.func107, Tryz.ntmps107
  go_wp2_with ((first | (refine wl_guard (by rfl) ?_) | (refine kc hst tc23 rfl ?_)); try simp only [pz, pn, sz, sc])
  refine bp_t rfl rfl (by rfl) ⟨?_, hst.keeps⟩
  rfl

theorem limb_at (v : Value) (l n i : Nat) (w0 : World) (h : LimbAt w0 v l n) : GivesAt Tryz.prog 107 #[v, .int .i64 i] (.int .u64 (lb n i : Nat)) w0 := by
  obtain ⟨hn, hl, b, cap, k, m, E, fr, rfl, h3, h4, h5, h6⟩ := h
  have hst := (St.start [] w0).add h5 (by simp)
  have h0 : ¬ ((i : Int) < 0) := by omega
  have h0' : (0 : Int) ≤ (i : Int) := by omega
  by_cases hil : i < l
  · have e : lb n i = lb m i := by rw [← h6, lb_mod hil]
    rw [e]
    have h1 : ¬ ((l : Int) ≤ (i : Int)) := by omega
    have h2 : (i : Int) < (l : Int) := by omega
    clear hn h5 h6 e
    go_enter Tryz.func107, Tryz.ntmps107
    go_wp2_with ((first | (refine wl_guard (by rfl) ?_) | (refine kc hst tc23 rfl ?_)); try simp only [pz, pn, sz, sc])
    refine bp_t rfl rfl (by rfl) ⟨?_, hst.keeps⟩
    rfl
  · have e : lb n i = 0 := lb_lt_of hn (by omega)
    rw [e]
    have h1 : ((l : Int) ≤ (i : Int)) := by omega
    clear hn h5 h6 e
    go_enter Tryz.func107, Tryz.ntmps107
    go_wp2_with ((first | (refine wl_guard (by rfl) ?_) | (refine kc hst tc23 rfl ?_)); try simp only [pz, pn, sz, sc])
    refine bp_t rfl rfl (by rfl) ⟨?_, hst.keeps⟩
    rfl

theorem div_lb (n k : Nat) : n / B ^ k = n / B ^ (k + 1) * B + lb n k := by
  have := Nat.div_add_mod (n / B ^ k) B
  rw [Nat.div_div_eq_div_mul, show B ^ k * B = B ^ (k + 1) from rfl] at this
  unfold lb
  rw [Nat.mul_comm (n / B ^ (k + 1))]; exact this.symm
theorem lt_of_div' {a b c : Nat} (h : a / c < b / c) : a < b := by
  rcases Nat.lt_or_ge a b with h' | h'
  · exact h'
  · have := Nat.div_le_div_right (c := c) h'; omega

set_option maxHeartbeats 8000000 in
theorem limb_Less (va vb : Value) (la lb' a b : Nat) (w0 : World) (ha : LimbAt w0 va la a) (hb : LimbAt w0 vb lb' b) : GivesAt Tryz.prog 97 #[va, vb] (.bool (decide (a < b))) w0 := by
  have hst := St.start [] w0
  have hda := fun (i : Nat) (w : World) (hst : Keeps [] w0 w) => limb_at va la a i w (ha.keep hst)
  have hdb := fun (i : Nat) (w : World) (hst : Keeps [] w0 w) => limb_at vb lb' b i w (hb.keep hst)
  obtain ⟨han, hla, aa, capa, _, _, _, _, rfl, _, _, _, _⟩ := ha
  obtain ⟨hbn, hlb, ab, capb, _, _, _, _, rfl, _, _, _, _⟩ := hb
  obtain ⟨mx, hmx⟩ : ∃ mx, mx = max la lb' := ⟨_, rfl⟩
  have hmx' : (if (lb' : Int) ≤ (la : Int) then (la : Int) else (lb' : Int)) = (mx : Int) := by split <;> omega
  have h1 : a < B ^ mx := Nat.lt_of_lt_of_le han (Nat.pow_le_pow_right B_pos (by omega))
  have h2 : b < B ^ mx := Nat.lt_of_lt_of_le hbn (Nat.pow_le_pow_right B_pos (by omega))
  have hmx2 : (max (la : Int) (lb' : Int)) = (mx : Int) := by omega
  have hmxl : mx ≤ 100000 := by omega
  go_enter Tryz.func97, Tryz.ntmps97
  go_wp2_with fail
  go_loopw [5] (fun vi wr => ∃ (t : Nat), t ≤ mx ∧ vi = .int .i64 ((t : Int) - 1) ∧ a / B ^ t = b / B ^ t ∧ St w0 [] [] wr) (fun vi _ => (intOf vi + 1).toNat)
  case atStart => exact ⟨mx, by omega, by go_num, by rw [Nat.div_eq_of_lt h1, Nat.div_eq_of_lt h2], hst⟩
  case round =>
    clear hst hmx hmx' hmx2
    obtain ⟨t, ht, rfl, he, hst⟩ := hrel
    cases t with
    | zero =>
      simp only [Nat.pow_zero, Nat.div_one] at he
      subst he
      have hc : decide (a < a) = false := by simp
      have hc' := Lib.hid hc
      clear hc h1 h2 han hbn
      go_wp2_with fail
      refine bp_t rfl rfl (by rfl) ⟨?_, hst.keeps⟩
      rw [hc'.out]; rfl
    | succ k =>
      have hdai := hda k
      have hdbi := hdb k
      have ea := div_lb a k
      have eb := div_lb b k
      rw [he] at ea
      have g1 : lb a k < lb b k → decide (a < b) = true := fun h => by
        have : a < b := lt_of_div' (c := B ^ k) (by omega)
        simpa using this
      have g2 : lb b k < lb a k → decide (a < b) = false := fun h => by
        have : b < a := lt_of_div' (c := B ^ k) (by omega)
        simp; omega
      have g3 : lb a k = lb b k → a / B ^ k = b / B ^ k := fun h => by omega
      generalize lb a k = x at *
      generalize lb b k = y at *
      have g1' := Lib.hid g1
      have g2' := Lib.hid g2
      have g3' := Lib.hid g3
      have h0 : (0 : Int) ≤ (k : Int) := by omega
      have ek : ((k + 1 : Nat) : Int) - 1 = (k : Int) := by omega
      rw [ek]
      have hk1 : k ≤ 100000 := by omega
      have hkm : k ≤ mx := by omega
      clear ea eb g1 g2 g3 he h1 h2 han hbn ek ht
      rcases Nat.lt_trichotomy x y with h | h | h
      · have t1 : ((x : Int) < (y : Int)) := by omega
        have t3 : ((x : Int) != (y : Int)) = true := by simp; omega
        have e := Lib.hid (g1'.out h)
        clear h
        go_wp2_with ((first | (refine kg gf107 hst (fun w hst => hdai w hst.keeps) rfl rfl rfl rfl ?_; clear hst; intro w hst) | (refine kg gf107 hst (fun w hst => hdbi w hst.keeps) rfl rfl rfl rfl ?_; clear hst; intro w hst)); try simp only [pz, pn, sz, sc])
        refine bp_t rfl rfl (by rfl) ⟨?_, hst.keeps⟩
        rw [e.out]; rfl
      · have e := Lib.hid (g3'.out h)
        subst h
        have t3 : ((x : Int) != (x : Int)) = false := by simp
        go_wp2_with ((first | (refine kg gf107 hst (fun w hst => hdai w hst.keeps) rfl rfl rfl rfl ?_; clear hst; intro w hst) | (refine kg gf107 hst (fun w hst => hdbi w hst.keeps) rfl rfl rfl rfl ?_; clear hst; intro w hst)); try simp only [pz, pn, sz, sc])
        go_roundw
        case rel => exact ⟨k, hkm, by go_num, e.out, hst⟩
        case measure => simp [intOf]
      · have t1 : ¬ ((x : Int) < (y : Int)) := by omega
        have t3 : ((x : Int) != (y : Int)) = true := by simp; omega
        have e := Lib.hid (g2'.out h)
        clear h
        go_wp2_with ((first | (refine kg gf107 hst (fun w hst => hdai w hst.keeps) rfl rfl rfl rfl ?_; clear hst; intro w hst) | (refine kg gf107 hst (fun w hst => hdbi w hst.keeps) rfl rfl rfl rfl ?_; clear hst; intro w hst)); try simp only [pz, pn, sz, sc])
        refine bp_t rfl rfl (by rfl) ⟨?_, hst.keeps⟩
        rw [e.out]; rfl

theorem bits_and1 (x : Nat) (hx : x < B) : bits .and .u64 (x : Int) 1 = ((x % 2 : Nat) : Int) := by
  have := bits_and_u64_nat x 1 (by rw [← B_val]; exact hx) (by omega)
  rw [Nat.and_one_is_mod] at this
  exact this
theorem lb_testBit (n i : Nat) (j : Nat) : (lb n i).testBit j = (decide (j < 64) && n.testBit (64 * i + j)) := by
  unfold lb
  rw [show B ^ i = 2 ^ (64 * i) from by rw [show B = 2 ^ 64 from rfl, ← Nat.pow_mul], show B = 2 ^ 64 from rfl, Nat.testBit_mod_two_pow, Nat.testBit_div_two_pow, Nat.add_comm]
theorem testBit_mod2 (n i : Nat) : (n / 2 ^ i % 2 = 1) = (n.testBit i = true) := by
  rw [Nat.testBit_eq_decide_div_mod_eq]; simp

set_option maxHeartbeats 2000000 in
theorem limb_Bit (v : Value) (l n i : Nat) (hi : i ≤ 100000) (w0 : World) (h : LimbAt w0 v l n) : GivesAt Tryz.prog 145 #[v, .int .i64 i] (.bool (n.testBit i)) w0 := by
  have hst := St.start [] w0
  have hda := fun (i : Nat) (w : World) (hst : Keeps [] w0 w) => limb_at v l n i w (h.keep hst)
  have hd1 := hda (i / 64)
  obtain ⟨x, hx⟩ : ∃ x, x = lb n (i / 64) := ⟨_, rfl⟩
  have hxB : x < B := by rw [hx]; exact lb_lt _ _
  obtain ⟨y, hy⟩ : ∃ y, y = x / 2 ^ (i % 64) := ⟨_, rfl⟩
  have hyB : y < B := by rw [hy]; exact Nat.lt_of_le_of_lt (Nat.div_le_self _ _) hxB
  have hand := bits_and1 y hyB
  have hres : ((y : Int) % 2 == 1) = n.testBit i := by
    have e : n.testBit i = x.testBit (i % 64) := by
      rw [hx, lb_testBit, show 64 * (i / 64) + i % 64 = i by omega]
      have : i % 64 < 64 := by omega
      simp [this]
    rw [e, Bool.eq_iff_iff, ← testBit_mod2, ← hy]
    simp; omega
  obtain ⟨q, hq⟩ : ∃ q, q = i / 64 := ⟨_, rfl⟩
  obtain ⟨r, hr⟩ : ∃ r, r = i % 64 := ⟨_, rfl⟩
  have Q1 : (i : Int) / 64 = (q : Int) := by omega
  have Q2 : (i : Int) % 64 = (r : Int) := by omega
  have Q3 : (0 : Int) ≤ (i : Int) := by omega
  have Q4 : (0 : Int) ≤ (r : Int) := by omega
  have Q5 : (i : Int).tdiv 64 = (q : Int) := by rw [Int.tdiv_eq_ediv_of_nonneg (by omega)]; exact Q1
  have Q6 : (i : Int).tmod 64 = (r : Int) := by rw [Int.tmod_eq_emod_of_nonneg (by omega)]; exact Q2
  have hy' : (x : Int) / 2 ^ r = (y : Int) := by rw [hy, ← hr, cast_pow2]; omega
  rw [← hx, ← hq] at hd1
  have hqs : q ≤ 100000 := by omega
  have hrs : r < 64 := by omega
  have hres' := Lib.hid hres
  clear hres hx hxB hy hyB hq hr h hda
  go_enter Tryz.func145, Tryz.ntmps145
  go_wp2_with ((first | (refine kg gf107 hst (fun w hst => hd1 w hst.keeps) rfl rfl rfl rfl ?_; clear hst; intro w hst) | (refine wl_guard (by rfl) ?_)); try simp only [pz, pn, sz, sc])
  refine bp_t rfl rfl (by rfl) ⟨?_, hst.keeps⟩
  rw [hres'.out]; rfl

/-- What wide.at tells. -/
def wat (n : Nat) (i : Int) (y : Nat) : Nat := if i < 0 then 0 else if 8 ≤ i then y else lb n i.toNat
theorem wat_lt (n : Nat) (i : Int) (y : Nat) (hy : y < B) : wat n i y < B := by
  unfold wat; split
  · exact B_pos
  · split
    · exact hy
    · exact lb_lt _ _

theorem wide_at (n : Nat) (i : Int) (y : Nat) : Gives Tryz.prog 101 #[W n, .int .i64 i, .int .u64 y] (.int .u64 (wat n i y : Nat)) := by
  intro w0
  have hst := St.start [] w0
  by_cases h1 : i < 0
  · have e : wat n i y = 0 := by unfold wat; rw [if_pos h1]
    rw [e]
    go_enter Tryz.func101, Tryz.ntmps101
    go_wp2_with ((first | (refine kb 3 hst rfl rfl ?_; clear hst; intro b3 w hb3 hst) | (refine kc hst tc23 rfl ?_)); try simp only [pz, pn, sz, sc])
    refine bp_t rfl rfl (by rfl) ⟨?_, hst.keeps⟩
    rfl
  · by_cases h2 : 8 ≤ i
    · have e : wat n i y = y := by unfold wat; rw [if_neg h1, if_pos h2]
      rw [e]
      go_enter Tryz.func101, Tryz.ntmps101
      go_wp2_with ((first | (refine kb 3 hst rfl rfl ?_; clear hst; intro b3 w hb3 hst) | (refine kc hst tc23 rfl ?_)); try simp only [pz, pn, sz, sc])
      refine bp_t rfl rfl (by rfl) ⟨?_, hst.keeps⟩
      rfl
    · obtain ⟨j, rfl⟩ := Int.eq_ofNat_of_zero_le (show 0 ≤ i by omega)
      have e : wat n (j : Int) y = lb n j := by unfold wat; rw [if_neg h1, if_neg h2]; rfl
      rw [e]
      have h3 : (0 : Int) ≤ (j : Int) := by omega
      have h4 : (j : Int) < 8 := by omega
      have h5 : j < 8 := by omega
      clear e
      go_enter Tryz.func101, Tryz.ntmps101
      go_wp2_with ((first | (refine kb 3 hst rfl rfl ?_; clear hst; intro b3 w hb3 hst) | (refine kc hst tc23 rfl ?_)); try simp only [pz, pn, sz, sc])
      refine bp_t rfl rfl (by rfl) ⟨?_, hst.keeps⟩
      rfl

/-- By how much a number is shifted. -/
def clampN (n : Int) : Nat := if n < 0 then 0 else if 512 < n then 512 else n.toNat
theorem clampN_le (n : Int) : clampN n ≤ 512 := by unfold clampN; split <;> (try split) <;> omega
theorem clampN_nat (n : Nat) (h : n ≤ 512) : clampN n = n := by unfold clampN; rw [if_neg (by omega), if_neg (by omega)]; omega

theorem wide_clamp (n : Int) : Gives Tryz.prog 98 #[.int .i64 n] (.int .i64 (clampN n : Nat)) := by
  intro w0
  have hst := St.start [] w0
  obtain ⟨c, hc⟩ : ∃ c, c = clampN n := ⟨_, rfl⟩
  rw [← hc]
  by_cases h1 : n ≤ 512
  · have m1 : (if n ≤ 512 then n else 512) = n := by rw [if_pos h1]
    have m1' : (if (512 : Int) < n then 512 else n) = n := by rw [if_neg (by omega)]
    have m2 : min n 512 = n := by omega
    by_cases h2 : n ≤ 0
    · have m4 : max 0 n = (c : Int) := by rw [hc]; unfold clampN; split <;> (try split) <;> omega
      have e0 : c = 0 := by omega
      have hc' := Lib.hid hc
      clear hc
      subst e0
      go_enter Tryz.func98, Tryz.ntmps98
      go_wp2_with fail
      refine bp_t rfl rfl (by rfl) ⟨?_, hst.keeps⟩
      go_num
    · have m4 : max 0 n = (c : Int) := by rw [hc]; unfold clampN; split <;> (try split) <;> omega
      have e0 : n = (c : Int) := by omega
      clear hc
      subst e0
      go_enter Tryz.func98, Tryz.ntmps98
      go_wp2_with fail
      refine bp_t rfl rfl (by rfl) ⟨?_, hst.keeps⟩
      go_num
  · have m2 : min n 512 = 512 := by omega
    have e0 : c = 512 := by rw [hc]; unfold clampN; rw [if_neg (by omega), if_pos (by omega)]
    clear hc
    subst e0
    go_enter Tryz.func98, Tryz.ntmps98
    go_wp2_with fail
    refine bp_t rfl rfl (by rfl) ⟨?_, hst.keeps⟩
    go_num

theorem LimbAt.wide {w : World} {b n : Nat} {E : TypeId} {fr : Nat × Nat} (hn : n < M) (h : w.heap[b]? = some (.cells (wc 8 n) E fr)) : LimbAt w (.slice (some ⟨b, 0, none⟩) 8 8) 8 n :=
  ⟨hn, by omega, b, 8, 8, n, E, fr, rfl, by omega, by omega, h, Nat.mod_eq_of_lt hn⟩

set_option maxHeartbeats 2000000 in
theorem wide_Cmp (a b : Nat) (ha : a < M) (hb : b < M) : Gives Tryz.prog 91 #[W a, W b] (.int .i64 (cmp a b)) := by
  intro w0
  have hst := St.start [] w0
  have hless := fun (b2 b3 : Nat) (w : World) (h2 : w.heap[b2]? = some (.cells (wc 8 a) 25)) (h3 : w.heap[b3]? = some (.cells (wc 8 b) 25)) => limb_Less _ _ 8 8 a b w (LimbAt.wide ha h2) (LimbAt.wide hb h3)
  by_cases h : a = b
  · subst h
    have e : cmp a a = 0 := by simp [cmp]
    rw [e]
    clear hless e
    have hd := decide_eq_true (show a = a from rfl)
    go_enter Tryz.func91, Tryz.ntmps91
    go_wp2_with ((first | (refine kb 2 hst rfl rfl ?_; clear hst; intro b2 w hb2 hst) | (refine kb 3 hst rfl rfl ?_; clear hst; intro b3 w hb3 hst) | (refine kl hst ta25 rfl ?_) | (refine klm hst ta25 rfl ?_) | (refine ke tr25 tc23 rfl ?_)); try simp only [pz, pn, sz, sc])
    refine bp_t rfl rfl (by rfl) ⟨?_, hst.keeps⟩
    rfl
  · have hd := decide_eq_false h
    by_cases hl : a < b
    · have e : cmp a b = -1 := by unfold cmp; rw [if_pos hl]
      rw [e]
      have hd2 := decide_eq_true hl
      rw [hd2] at hless
      clear e h hl hd2
      go_enter Tryz.func91, Tryz.ntmps91
      go_wp2_with ((first | (refine kb 2 hst rfl rfl ?_; clear hst; intro b2 w hb2 hst) | (refine kb 3 hst rfl rfl ?_; clear hst; intro b3 w hb3 hst) | (refine kl hst ta25 rfl ?_) | (refine klm hst ta25 rfl ?_) | (refine ke tr25 tc23 rfl ?_)); try simp only [pz, pn, sz, sc])
      refine wp_region_T 4  hst (by kernel_rfl) ?_; clear hst; intro w hst; (try dsimp only [List.length_cons, List.length_nil]); (try simp only [List.length_cons, List.length_nil, Nat.reduceAdd, Array.replicate_succ, Array.replicate_zero, List.push_toArray, List.nil_append, List.cons_append])
      refine r0 0 ?_; simp only [pz, pn, sz, sc]
      refine r0 1 ?_; simp only [pz, pn, sz, sc]
      refine r1 2 ?_; (first | (refine kg gf97 hst (fun w hst => hless b2 b3 w (hst.own _ _ (by repeat (first | exact List.Mem.head _ | refine List.Mem.tail _ ?_))) (hst.own _ _ (by repeat (first | exact List.Mem.head _ | refine List.Mem.tail _ ?_)))) rfl rfl rfl rfl ?_; clear hst; intro w hst) | (refine kp ?_)); (try simp only [pz, pn, sz, sc]); refine re ?_
      refine r0 3 ?_; simp only [pz, pn, sz, sc]
      refine rd_ ?_
      go_wp2_with ((first | (refine kb 2 hst rfl rfl ?_; clear hst; intro b2 w hb2 hst) | (refine kb 3 hst rfl rfl ?_; clear hst; intro b3 w hb3 hst) | (refine kl hst ta25 rfl ?_) | (refine klm hst ta25 rfl ?_) | (refine ke tr25 tc23 rfl ?_)); try simp only [pz, pn, sz, sc])
      refine bp_t rfl rfl (by rfl) ⟨?_, hst.keeps⟩
      rfl
    · have e : cmp a b = 1 := by unfold cmp; rw [if_neg hl, if_pos (by omega)]
      rw [e]
      have hd2 := decide_eq_false hl
      rw [hd2] at hless
      clear e h hl hd2
      go_enter Tryz.func91, Tryz.ntmps91
      go_wp2_with ((first | (refine kb 2 hst rfl rfl ?_; clear hst; intro b2 w hb2 hst) | (refine kb 3 hst rfl rfl ?_; clear hst; intro b3 w hb3 hst) | (refine kl hst ta25 rfl ?_) | (refine klm hst ta25 rfl ?_) | (refine ke tr25 tc23 rfl ?_)); try simp only [pz, pn, sz, sc])
      refine wp_region_T 4  hst (by kernel_rfl) ?_; clear hst; intro w hst; (try dsimp only [List.length_cons, List.length_nil]); (try simp only [List.length_cons, List.length_nil, Nat.reduceAdd, Array.replicate_succ, Array.replicate_zero, List.push_toArray, List.nil_append, List.cons_append])
      refine r0 0 ?_; simp only [pz, pn, sz, sc]
      refine r0 1 ?_; simp only [pz, pn, sz, sc]
      refine r1 2 ?_; (first | (refine kg gf97 hst (fun w hst => hless b2 b3 w (hst.own _ _ (by repeat (first | exact List.Mem.head _ | refine List.Mem.tail _ ?_))) (hst.own _ _ (by repeat (first | exact List.Mem.head _ | refine List.Mem.tail _ ?_)))) rfl rfl rfl rfl ?_; clear hst; intro w hst) | (refine kp ?_)); (try simp only [pz, pn, sz, sc]); refine re ?_
      refine r0 3 ?_; simp only [pz, pn, sz, sc]
      refine rd_ ?_
      go_wp2_with ((first | (refine kb 2 hst rfl rfl ?_; clear hst; intro b2 w hb2 hst) | (refine kb 3 hst rfl rfl ?_; clear hst; intro b3 w hb3 hst) | (refine kl hst ta25 rfl ?_) | (refine klm hst ta25 rfl ?_) | (refine ke tr25 tc23 rfl ?_)); try simp only [pz, pn, sz, sc])
      refine bp_t rfl rfl (by rfl) ⟨?_, hst.keeps⟩
      rfl

theorem wide_Len (a : Nat) (ha : a < M) : Gives Tryz.prog 90 #[W a] (.int .i64 (bl a : Nat)) := by
  intro w0
  have hst := St.start [] w0
  have hlen := fun (b1 : Nat) (w : World) (h : w.heap[b1]? = some (.cells (wc 8 a) 25)) => limb_Len b1 0 8 8 8 a 25 (0, 0) (by omega) (by omega) (by omega) w h
  rw [Nat.pow_zero, Nat.div_one, ← M_eq, Nat.mod_eq_of_lt ha] at hlen
  go_enter Tryz.func90, Tryz.ntmps90
  go_wp2_with ((first | (refine kg gf96 hst (fun w hst => hlen b1 w (hst.own _ _ (by repeat (first | exact List.Mem.head _ | refine List.Mem.tail _ ?_)))) rfl rfl rfl rfl ?_; clear hst; intro w hst) | (refine kb 1 hst rfl rfl ?_; clear hst; intro b1 w hb1 hst)); try simp only [pz, pn, sz, sc])
  refine bp_t rfl rfl (by rfl) ⟨?_, hst.keeps⟩
  rfl

theorem wide_Bit (a i : Nat) (ha : a < M) (hi : i ≤ 100000) : Gives Tryz.prog 134 #[W a, .int .i64 i] (.bool (a.testBit i)) := by
  intro w0
  have hst := St.start [] w0
  have hlen := fun (b1 : Nat) (w : World) (h : w.heap[b1]? = some (.cells (wc 8 a) 25)) => limb_Bit _ 8 a i hi w (LimbAt.wide ha h)
  go_enter Tryz.func134, Tryz.ntmps134
  go_wp2_with ((first | (refine kg gf145 hst (fun w hst => hlen b2 w (hst.own _ _ (by repeat (first | exact List.Mem.head _ | refine List.Mem.tail _ ?_)))) rfl rfl rfl rfl ?_; clear hst; intro w hst) | (refine kb 2 hst rfl rfl ?_; clear hst; intro b2 w hb2 hst)); try simp only [pz, pn, sz, sc])
  refine bp_t rfl rfl (by rfl) ⟨?_, hst.keeps⟩
  rfl

/-- Is a number, taken with a sign, below 0? -/
def minusB (a : Nat) : Bool := a.testBit 511
theorem wide_Minus (a : Nat) (ha : a < M) : Gives Tryz.prog 120 #[W a] (.bool (minusB a)) := by
  intro w0
  have hst := St.start [] w0
  have h := wide_Bit a 511 ha (by omega)
  go_enter Tryz.func120, Tryz.ntmps120
  go_wp2_with ((first | (refine kf gf134 hst (h) rfl rfl rfl rfl ?_; clear hst; intro w hst) | (refine kb 1 hst rfl rfl ?_; clear hst; intro b1 w hb1 hst) | (refine kl hst ta25 rfl ?_) | (refine klm hst ta25 rfl ?_)); try simp only [pz, pn, sz, sc])
  refine bp_t rfl rfl (by rfl) ⟨?_, hst.keeps⟩
  rfl

theorem wide_Neg (a : Nat) (ha : a < M) : Gives Tryz.prog 144 #[W a] (W ((M - a) % M)) := by
  intro w0
  have hst := St.start [] w0
  have h := wide_Sub 0 a (by decide) ha
  rw [Nat.zero_add, W_zero] at h
  go_enter Tryz.func144, Tryz.ntmps144
  go_wp2_with ((first | (refine kf gf93 hst (h) rfl rfl rfl rfl ?_; clear hst; intro w hst) | (refine kb 1 hst rfl rfl ?_; clear hst; intro b1 w hb1 hst) | (refine ka 2 hst tz25 rfl rfl ?_; clear hst; intro b2 w hb2 hst) | (refine kl hst ta25 rfl ?_) | (refine klm hst ta25 rfl ?_) | (refine ka 3 hst tz25 rfl rfl ?_; clear hst; intro b3 w hb3 hst) | (refine kt hst ta25 rfl rfl ?_; clear hst; intro w hst) | (refine ktm hst ta25 rfl rfl ?_; clear hst; intro w hst)); try simp only [pz, pn, sz, sc])
  refine bp_c rfl rfl (la hst ta25) ⟨?_, hst.keeps⟩
  rfl

end Go.Proofs.YtggchelniblipaaGreat.Rd

namespace Go.Proofs.YtggchelniblipaaGreat.Rd
open Go Go.RowKit
set_option linter.unusedVariables false
set_option linter.unusedSimpArgs false
set_option maxRecDepth 100000

section
variable {P : Program} {ops : Array Oper} {rest : List Oper} {Q : Exit → Act → World → Prop} {a : Act} {w w0 : World} {S : List Nat} {L : List (Nat × Obj)}

/-- T is a struct's type; its fields' types and places. -/
def FieldsT (P : Program) (T : TypeId) (fs : List (TypeId × Nat)) : Prop :=
  P.underlying T = some (.struct (P.fieldsOf T)) ∧ P.stoodInHeld T = false ∧ ((P.fieldsOf T).toList.map fun f => (f.type, f.offset)) = fs ∧ ((P.fieldsOf T).toList.all fun f => f.name != "_") = true

/-- Field by field: whether what lies there is the same. -/
inductive FEq (P : Program) (d : Nat) (xs ys : Array Value) : List (TypeId × Nat) → Bool → Prop
  | nil : FEq P d xs ys [] true
  | cons {t : TypeId} {o : Nat} {fs : List (TypeId × Nat)} {x y : Value} {r r' : Bool} (h1 : ∀ w, (part t xs o).run P w = .ok x w) (h2 : ∀ w, (part t ys o).run P w = .ok y w) (h3 : ∀ w, (Op.equalIn d t x y).run P w = .ok r w) (h : FEq P d xs ys fs r') : FEq P d xs ys ((t, o) :: fs) (r && r')

theorem FEq.run {d : Nat} {xs ys : Array Value} : ∀ (l : List Field) {r : Bool}, (l.all fun f => f.name != "_") = true → FEq P d xs ys (l.map fun f => (f.type, f.offset)) r → ∀ w, (Op.eqFields d xs ys l).run P w = .ok r w
  | [], r, _, h, w => by
    cases h
    simp [Op.eqFields]
  | f :: l, r, hn, h, w => by
    simp only [List.all_cons, Bool.and_eq_true, bne_iff_ne] at hn
    cases h with
    | cons h1 h2 h3 h4 =>
      rename_i x y r1 r2
      have ih := FEq.run l hn.2 h4 w
      simp only [Op.eqFields, hn.1, ne_eq, not_false_eq_true, if_true, Sem.run_bind, h1 w, h2 w, h3 w, Result.andThen_ok]
      cases r1
      · simp
      · simpa using ih

theorem run_equal_fields {d : Nat} {T : TypeId} {fs : List (TypeId × Nat)} {xs ys : Array Value} {r : Bool} (hT : FieldsT P T fs) (h : FEq P d xs ys fs r) (w : World) : (Op.equalIn (d + 1) T (.agg xs) (.agg ys)).run P w = .ok r w := by
  obtain ⟨h1, h2, h3, h4⟩ := hT
  rw [run_equalIn_struct w d T xs ys h1 h2]
  subst h3
  exact FEq.run _ h4 h w

theorem part_cell {e : TypeId} {cs : Array Value} {o : Nat} {v : Value} (he : CellT P e) (h : cs[o]? = some v) (w : World) : (part e cs o).run P w = .ok v w := by
  obtain ⟨d, hu, hd, hs⟩ := he
  simp [part, Sem.run_bind, run_isAgg_no d hu hd w, h]

theorem run_equal_word {T e : TypeId} {m n : Nat} (hT : FieldsT P T [(e, 0), (e, 1)]) (he : CellT P e) (hu : P.underlying e = some (.int .u64)) (hm : m < M2) (hn : n < M2) (w : World) :
    (Op.equalIn 10000 T (Wd m) (Wd n)).run P w = .ok (decide (m = n)) w := by
  have h := run_equal_fields (d := 9999) hT (.cons (part_cell he (wdc_0 m)) (part_cell he (wdc_0 n)) (fun w => run_equalIn_int w 9998 e .u64 .u64 _ _ hu) (.cons (part_cell he (wdc_1 m)) (part_cell he (wdc_1 n)) (fun w => run_equalIn_int w 9998 e .u64 .u64 _ _ hu) .nil)) w
  unfold Wd
  rw [h]
  congr 1
  rw [Bool.eq_iff_iff]
  simp only [Bool.and_true, Bool.and_eq_true, beq_iff_eq, decide_eq_true_eq]
  constructor
  · intro ⟨h1, h0⟩
    exact wdc_inj hm hn (by omega) (by omega)
  · intro e; subst e; simp

/-- Whether two words are the same. -/
theorem wl_eqlS {o : Oper} {T R e : TypeId} {x y : Operand} {m n : Nat} (hT : FieldsT P T [(e, 0), (e, 1)]) (he : CellT P e) (hu : P.underlying e = some (.int .u64)) (hq : P.eqGuardType P.depth T = false)
    (hg : o.guard = none) (ho : o.op = .binOp .eql T x y R) (hx : a.eval x = Wd m) (hy : a.eval y = Wd n) (hm : m < M2) (hn : n < M2)
    (h : wpList P ops Q rest (a.put o.dst (.bool (decide (m = n)))) w) : wpList P ops Q (o :: rest) a w := by
  have h1 : (binOp .eql T (Wd m) (Wd n)).run P w = .ok (.bool (decide (m = n))) w := by
    have e1 := run_eql_struct (P := P) w T (wdc m) (wdc n)
    have e2 := run_equal_word hT he hu hm hn w
    unfold Wd at e2 ⊢
    rw [e1, e2]
    rfl
  have h2 : (eqGuard .eql T x y (Wd m) (Wd n)).run P w = .ok () w := by
    unfold Wd; exact run_eqGuard_agg (P := P) w .eql T x y _ _ hq
  refine wpList_plain hg fun K hK => ?_
  unfold Oper.wp execOp
  simp only [ho, hx, hy, Sem.run_bind, h1, h2, Sem.run_pure, Result.andThen_ok]
  exact hK _ _ h
theorem wl_neqS {o : Oper} {T R e : TypeId} {x y : Operand} {m n : Nat} (hT : FieldsT P T [(e, 0), (e, 1)]) (he : CellT P e) (hu : P.underlying e = some (.int .u64)) (hq : P.eqGuardType P.depth T = false)
    (hg : o.guard = none) (ho : o.op = .binOp .neq T x y R) (hx : a.eval x = Wd m) (hy : a.eval y = Wd n) (hm : m < M2) (hn : n < M2)
    (h : wpList P ops Q rest (a.put o.dst (.bool (!decide (m = n)))) w) : wpList P ops Q (o :: rest) a w := by
  have h1 : (binOp .neq T (Wd m) (Wd n)).run P w = .ok (.bool (!decide (m = n))) w := by
    have e1 := run_neq_struct (P := P) w T (wdc m) (wdc n)
    have e2 := run_equal_word hT he hu hm hn w
    unfold Wd at e2 ⊢
    rw [e1, e2]
    rfl
  have h2 : (eqGuard .neq T x y (Wd m) (Wd n)).run P w = .ok () w := by
    unfold Wd; exact run_eqGuard_agg (P := P) w .neq T x y _ _ hq
  refine wpList_plain hg fun K hK => ?_
  unfold Oper.wp execOp
  simp only [ho, hx, hy, Sem.run_bind, h1, h2, Sem.run_pure, Result.andThen_ok]
  exact hK _ _ h
theorem wl_neqW {o : Oper} {T R e : TypeId} {x y : Operand} {m n : Nat} (hT : ArrT P T 8 e) (he : CellT P e) (hu : P.underlying e = some (.int .u64)) (hq : P.eqGuardType P.depth T = false)
    (hg : o.guard = none) (ho : o.op = .binOp .neq T x y R) (hx : a.eval x = W m) (hy : a.eval y = W n) (hm : m < M) (hn : n < M)
    (h : wpList P ops Q rest (a.put o.dst (.bool (!decide (m = n)))) w) : wpList P ops Q (o :: rest) a w := by
  have h1 : (binOp .neq T (W m) (W n)).run P w = .ok (.bool (!decide (m = n))) w := by
    have e1 := run_neq_struct (P := P) w T (wc 8 m) (wc 8 n)
    have e2 := run_eql_wide hT he hu m n hm hn w
    unfold W at e2 ⊢
    rw [e1, e2]
    rfl
  have h2 : (eqGuard .neq T x y (W m) (W n)).run P w = .ok () w := by
    unfold W; exact run_eqGuard_agg (P := P) w .neq T x y _ _ hq
  refine wpList_plain hg fun K hK => ?_
  unfold Oper.wp execOp
  simp only [ho, hx, hy, Sem.run_bind, h1, h2, Sem.run_pure, Result.andThen_ok]
  exact hK _ _ h
theorem kn {o : Oper} {T R e : TypeId} {x y : Operand} {m n : Nat} {c : Bool} (hT : ArrT P T 8 e) (he : CellT P e) (ho : o.op = .binOp .neq T x y R) (h : wpList P ops Q rest (a.put o.dst (.bool (!c))) w)
    (hx : a.eval x = W m := by rfl) (hy : a.eval y = W n := by first | rfl | exact W_zero.symm) (hm : m < M := by assumption) (hn : n < M := by first | assumption | decide) (hc : decide (m = n) = c := by first | assumption | rfl)
    (hu : P.underlying e = some (.int .u64) := by kernel_rfl) (hq : P.eqGuardType P.depth T = false := by kernel_rfl) (hg : o.guard = none := by rfl) : wpList P ops Q (o :: rest) a w := by
  subst hc; exact wl_neqW hT he hu hq hg ho hx hy hm hn h
theorem keS {o : Oper} {T R e : TypeId} {x y : Operand} {m n : Nat} {c : Bool} (hT : FieldsT P T [(e, 0), (e, 1)]) (he : CellT P e) (ho : o.op = .binOp .eql T x y R) (h : wpList P ops Q rest (a.put o.dst (.bool c)) w)
    (hx : a.eval x = Wd m := by rfl) (hy : a.eval y = Wd n := by first | rfl | exact Wd_zero.symm) (hm : m < M2 := by assumption) (hn : n < M2 := by first | assumption | decide) (hc : decide (m = n) = c := by first | assumption | rfl)
    (hu : P.underlying e = some (.int .u64) := by kernel_rfl) (hq : P.eqGuardType P.depth T = false := by kernel_rfl) (hg : o.guard = none := by rfl) : wpList P ops Q (o :: rest) a w := by
  subst hc; exact wl_eqlS hT he hu hq hg ho hx hy hm hn h
theorem knS {o : Oper} {T R e : TypeId} {x y : Operand} {m n : Nat} {c : Bool} (hT : FieldsT P T [(e, 0), (e, 1)]) (he : CellT P e) (ho : o.op = .binOp .neq T x y R) (h : wpList P ops Q rest (a.put o.dst (.bool (!c))) w)
    (hx : a.eval x = Wd m := by rfl) (hy : a.eval y = Wd n := by first | rfl | exact Wd_zero.symm) (hm : m < M2 := by assumption) (hn : n < M2 := by first | assumption | decide) (hc : decide (m = n) = c := by first | assumption | rfl)
    (hu : P.underlying e = some (.int .u64) := by kernel_rfl) (hq : P.eqGuardType P.depth T = false := by kernel_rfl) (hg : o.guard = none := by rfl) : wpList P ops Q (o :: rest) a w := by
  subst hc; exact wl_neqS hT he hu hq hg ho hx hy hm hn h
theorem yN {T R e : TypeId} {x y : Operand} {m n : Nat} {c : Bool} {ty : TypeId} {pos : String} {af : Array Edge} {dst : Option Tmp} {g : Option (Nat × Bool)} (hT : ArrT P T 8 e) (he : CellT P e)
    (hx : a.eval x = W m := by rfl) (hy : a.eval y = W n := by first | rfl | exact W_zero.symm) (hm : m < M := by assumption) (hn : n < M := by first | assumption | decide) (hc : decide (m = n) = c := by first | assumption | rfl)
    (hu : P.underlying e = some (.int .u64) := by kernel_rfl) (hq : P.eqGuardType P.depth T = false := by kernel_rfl) : ∀ w, (execOp a.eval ⟨dst, .binOp .neq T x y R, ty, pos, af, g⟩).run P w = .ok (.value (.bool !c)) w := fun w => by
  subst hc
  have h1 : (binOp .neq T (W m) (W n)).run P w = .ok (.bool (!decide (m = n))) w := by
    have e1 := run_neq_struct (P := P) w T (wc 8 m) (wc 8 n)
    have e2 := run_eql_wide hT he hu m n hm hn w
    unfold W at e2 ⊢
    rw [e1, e2]
    rfl
  have h2 : (eqGuard .neq T x y (W m) (W n)).run P w = .ok () w := by
    unfold W; exact run_eqGuard_agg (P := P) w .neq T x y _ _ hq
  unfold execOp
  simp only [hx, hy, Sem.run_bind, h1, h2, Sem.run_pure, Result.andThen_ok]
theorem yES {T R e : TypeId} {x y : Operand} {m n : Nat} {c : Bool} {ty : TypeId} {pos : String} {af : Array Edge} {dst : Option Tmp} {g : Option (Nat × Bool)} (hT : FieldsT P T [(e, 0), (e, 1)]) (he : CellT P e)
    (hx : a.eval x = Wd m := by rfl) (hy : a.eval y = Wd n := by first | rfl | exact Wd_zero.symm) (hm : m < M2 := by assumption) (hn : n < M2 := by first | assumption | decide) (hc : decide (m = n) = c := by first | assumption | rfl)
    (hu : P.underlying e = some (.int .u64) := by kernel_rfl) (hq : P.eqGuardType P.depth T = false := by kernel_rfl) : ∀ w, (execOp a.eval ⟨dst, .binOp .eql T x y R, ty, pos, af, g⟩).run P w = .ok (.value (.bool c)) w := fun w => by
  subst hc
  have h1 : (binOp .eql T (Wd m) (Wd n)).run P w = .ok (.bool (decide (m = n))) w := by
    have e1 := run_eql_struct (P := P) w T (wdc m) (wdc n)
    have e2 := run_equal_word hT he hu hm hn w
    unfold Wd at e2 ⊢
    rw [e1, e2]
    rfl
  have h2 : (eqGuard .eql T x y (Wd m) (Wd n)).run P w = .ok () w := by
    unfold Wd; exact run_eqGuard_agg (P := P) w .eql T x y _ _ hq
  unfold execOp
  simp only [hx, hy, Sem.run_bind, h1, h2, Sem.run_pure, Result.andThen_ok]
theorem yNS {T R e : TypeId} {x y : Operand} {m n : Nat} {c : Bool} {ty : TypeId} {pos : String} {af : Array Edge} {dst : Option Tmp} {g : Option (Nat × Bool)} (hT : FieldsT P T [(e, 0), (e, 1)]) (he : CellT P e)
    (hx : a.eval x = Wd m := by rfl) (hy : a.eval y = Wd n := by first | rfl | exact Wd_zero.symm) (hm : m < M2 := by assumption) (hn : n < M2 := by first | assumption | decide) (hc : decide (m = n) = c := by first | assumption | rfl)
    (hu : P.underlying e = some (.int .u64) := by kernel_rfl) (hq : P.eqGuardType P.depth T = false := by kernel_rfl) : ∀ w, (execOp a.eval ⟨dst, .binOp .neq T x y R, ty, pos, af, g⟩).run P w = .ok (.value (.bool !c)) w := fun w => by
  subst hc
  have h1 : (binOp .neq T (Wd m) (Wd n)).run P w = .ok (.bool (!decide (m = n))) w := by
    have e1 := run_neq_struct (P := P) w T (wdc m) (wdc n)
    have e2 := run_equal_word hT he hu hm hn w
    unfold Wd at e2 ⊢
    rw [e1, e2]
    rfl
  have h2 : (eqGuard .neq T x y (Wd m) (Wd n)).run P w = .ok () w := by
    unfold Wd; exact run_eqGuard_agg (P := P) w .neq T x y _ _ hq
  unfold execOp
  simp only [hx, hy, Sem.run_bind, h1, h2, Sem.run_pure, Result.andThen_ok]
end

end Go.Proofs.YtggchelniblipaaGreat.Rd
