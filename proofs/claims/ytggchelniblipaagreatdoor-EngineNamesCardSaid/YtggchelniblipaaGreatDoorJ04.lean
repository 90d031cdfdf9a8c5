/- What wide.made, Shl, down, Shr, Sar answer, as numbers. -/
import Derived.Test.YtggchelniblipaaGreatDoorJ02
import Derived.Test.YtggchelniblipaaGreatDoorJ03
namespace Go.Proofs.YtggchelniblipaaGreatDoor.Rd
open Go Go.RowKit
set_option linter.unusedVariables false
set_option linter.unusedSimpArgs false
set_option maxRecDepth 100000

/-- A slice of limbs that holds n. -/
def LimbAt (w : World) (v : Value) (l n : Nat) : Prop := n < B ^ l ∧ l ≤ 100000 ∧ ∃ b cap k m E fr, v = .slice (some ⟨b, 0, none⟩) l cap ∧ l ≤ cap ∧ l ≤ k ∧ w.heap[b]? = some (.cells (wc k m) E fr) ∧ m % B ^ l = n
theorem LimbAt.keep {w w' : World} {v : Value} {l n : Nat} (h : LimbAt w v l n) (k : Keeps [] w w') : LimbAt w' v l n := by
  obtain ⟨h1, h2, b, cap, j, m, E, fr, e, h3, h4, h5, h6⟩ := h
  exact ⟨h1, h2, b, cap, j, m, E, fr, e, h3, h4, by rw [k.block b (lt_of_some h5) (by simp)]; exact h5, h6⟩
theorem lb_mod {m l i : Nat} (h : i < l) : lb (m % B ^ l) i = lb m i := by
  have := lb_part m 0 l i h
  rwa [Nat.pow_zero, Nat.div_one, Nat.zero_add] at this

theorem limb_at_no (v : Value) (l n : Nat) (i : Int) (hi : i < 0) (w0 : World) (h : LimbAt w0 v l n) : GivesAt Tryz.prog 109 #[v, .int .i64 i] (.int .u64 0) w0 := by
  obtain ⟨hn, hl, b, cap, k, m, E, fr, rfl, h3, h4, h5, h6⟩ := h
  have hst := St.start [] w0
  clear hn h5 h6
  go_enter Tryz.func109, Tryz.ntmps109
  go_wp2_with ((first | (refine wl_guard (by rfl) ?_) | (refine kc hst tc22 rfl ?_)); try simp only [pz, pn, sz, sc])
  refine bp_t rfl rfl (by rfl) ⟨?_, hst.keeps⟩
  rfl

theorem limb_at (v : Value) (l n i : Nat) (w0 : World) (h : LimbAt w0 v l n) : GivesAt Tryz.prog 109 #[v, .int .i64 i] (.int .u64 (lb n i : Nat)) w0 := by
  obtain ⟨hn, hl, b, cap, k, m, E, fr, rfl, h3, h4, h5, h6⟩ := h
  have hst := (St.start [] w0).add h5 (by simp)
  have h0 : ¬ ((i : Int) < 0) := by omega
  have h0' : (0 : Int) ≤ (i : Int) := by omega
  by_cases hil : i < l
  · have e : lb n i = lb m i := by rw [← h6, lb_mod hil]
    rw [e]
    have h1 : ¬ ((l : Int) ≤ (i : Int)) := by omega
    have h2 : (i : Int) < (l : Int) := by omega
    clear hn h5 h6 e
    go_enter Tryz.func109, Tryz.ntmps109
    go_wp2_with ((first | (refine wl_guard (by rfl) ?_) | (refine kc hst tc22 rfl ?_)); try simp only [pz, pn, sz, sc])
    refine bp_t rfl rfl (by rfl) ⟨?_, hst.keeps⟩
    rfl
  · have e : lb n i = 0 := lb_lt_of hn (by omega)
    rw [e]
    have h1 : ((l : Int) ≤ (i : Int)) := by omega
    clear hn h5 h6 e
    go_enter Tryz.func109, Tryz.ntmps109
    go_wp2_with ((first | (refine wl_guard (by rfl) ?_) | (refine kc hst tc22 rfl ?_)); try simp only [pz, pn, sz, sc])
    refine bp_t rfl rfl (by rfl) ⟨?_, hst.keeps⟩
    rfl

theorem div_lb (n k : Nat) : n / B ^ k = n / B ^ (k + 1) * B + lb n k := by
  have := Nat.div_add_mod (n / B ^ k) B
  rw [Nat.div_div_eq_div_mul, show B ^ k * B = B ^ (k + 1) from rfl] at this
  unfold lb
  rw [Nat.mul_comm (n / B ^ (k + 1))]; exact this.symm
theorem lt_of_div' {a b c : Nat} (h : a / c < b / c) : a < b := by
  rcases Nat.lt_or_ge a b with h' | h'
  · exact h'
  · have := Nat.div_le_div_right (c := c) h'; omega

set_option maxHeartbeats 8000000 in
theorem limb_Less (va vb : Value) (la lb' a b : Nat) (w0 : World) (ha : LimbAt w0 va la a) (hb : LimbAt w0 vb lb' b) : GivesAt Tryz.prog 99 #[va, vb] (.bool (decide (a < b))) w0 := by
  have hst := St.start [] w0
  have hda := fun (i : Nat) (w : World) (hst : Keeps [] w0 w) => limb_at va la a i w (ha.keep hst)
  have hdb := fun (i : Nat) (w : World) (hst : Keeps [] w0 w) => limb_at vb lb' b i w (hb.keep hst)
  obtain ⟨han, hla, aa, capa, _, _, _, _, rfl, _, _, _, _⟩ := ha
  obtain ⟨hbn, hlb, ab, capb, _, _, _, _, rfl, _, _, _, _⟩ := hb
  obtain ⟨mx, hmx⟩ : ∃ mx, mx = max la lb' := ⟨_, rfl⟩
  have hmx' : (if (lb' : Int) ≤ (la : Int) then (la : Int) else (lb' : Int)) = (mx : Int) := by split <;> omega
  have h1 : a < B ^ mx := Nat.lt_of_lt_of_le han (Nat.pow_le_pow_right B_pos (by omega))
  have h2 : b < B ^ mx := Nat.lt_of_lt_of_le hbn (Nat.pow_le_pow_right B_pos (by omega))
  have hmx2 : (max (la : Int) (lb' : Int)) = (mx : Int) := by omega
  have hmxl : mx ≤ 100000 := by omega
  go_enter Tryz.func99, Tryz.ntmps99
  go_wp2_with fail
  go_loopw [5] (fun vi wr => ∃ (t : Nat), t ≤ mx ∧ vi = .int .i64 ((t : Int) - 1) ∧ a / B ^ t = b / B ^ t ∧ St w0 [] [] wr) (fun vi _ => (intOf vi + 1).toNat)
  case atStart => exact ⟨mx, by omega, by go_num, by rw [Nat.div_eq_of_lt h1, Nat.div_eq_of_lt h2], hst⟩
  case round =>
    clear hst hmx hmx' hmx2
    obtain ⟨t, ht, rfl, he, hst⟩ := hrel
    cases t with
    | zero =>
      simp only [Nat.pow_zero, Nat.div_one] at he
      subst he
      have hc : decide (a < a) = false := by simp
      have hc' := Lib.hid hc
      clear hc h1 h2 han hbn
      go_wp2_with fail
      refine bp_t rfl rfl (by rfl) ⟨?_, hst.keeps⟩
      rw [hc'.out]; rfl
    | succ k =>
      have hdai := hda k
      have hdbi := hdb k
      have ea := div_lb a k
      have eb := div_lb b k
      rw [he] at ea
      have g1 : lb a k < lb b k → decide (a < b) = true := fun h => by
        have : a < b := lt_of_div' (c := B ^ k) (by omega)
        simpa using this
      have g2 : lb b k < lb a k → decide (a < b) = false := fun h => by
        have : b < a := lt_of_div' (c := B ^ k) (by omega)
        simp; omega
      have g3 : lb a k = lb b k → a / B ^ k = b / B ^ k := fun h => by omega
      generalize lb a k = x at *
      generalize lb b k = y at *
      have g1' := Lib.hid g1
      have g2' := Lib.hid g2
      have g3' := Lib.hid g3
      have h0 : (0 : Int) ≤ (k : Int) := by omega
      have ek : ((k + 1 : Nat) : Int) - 1 = (k : Int) := by omega
      rw [ek]
      have hk1 : k ≤ 100000 := by omega
      have hkm : k ≤ mx := by omega
      clear ea eb g1 g2 g3 he h1 h2 han hbn ek ht
      rcases Nat.lt_trichotomy x y with h | h | h
      · have t1 : ((x : Int) < (y : Int)) := by omega
        have t3 : ((x : Int) != (y : Int)) = true := by simp; omega
        have e := Lib.hid (g1'.out h)
        clear h
        go_wp2_with ((first | (refine kg gf109 hst (fun w hst => hdai w hst.keeps) rfl rfl rfl rfl ?_; clear hst; intro w hst) | (refine kg gf109 hst (fun w hst => hdbi w hst.keeps) rfl rfl rfl rfl ?_; clear hst; intro w hst)); try simp only [pz, pn, sz, sc])
        refine bp_t rfl rfl (by rfl) ⟨?_, hst.keeps⟩
        rw [e.out]; rfl
      · have e := Lib.hid (g3'.out h)
        subst h
        have t3 : ((x : Int) != (x : Int)) = false := by simp
        go_wp2_with ((first | (refine kg gf109 hst (fun w hst => hdai w hst.keeps) rfl rfl rfl rfl ?_; clear hst; intro w hst) | (refine kg gf109 hst (fun w hst => hdbi w hst.keeps) rfl rfl rfl rfl ?_; clear hst; intro w hst)); try simp only [pz, pn, sz, sc])
        go_roundw
        case rel => exact ⟨k, hkm, by go_num, e.out, hst⟩
        case measure => simp [intOf]
      · have t1 : ¬ ((x : Int) < (y : Int)) := by omega
        have t3 : ((x : Int) != (y : Int)) = true := by simp; omega
        have e := Lib.hid (g2'.out h)
        clear h
        go_wp2_with ((first | (refine kg gf109 hst (fun w hst => hdai w hst.keeps) rfl rfl rfl rfl ?_; clear hst; intro w hst) | (refine kg gf109 hst (fun w hst => hdbi w hst.keeps) rfl rfl rfl rfl ?_; clear hst; intro w hst)); try simp only [pz, pn, sz, sc])
        refine bp_t rfl rfl (by rfl) ⟨?_, hst.keeps⟩
        rw [e.out]; rfl

theorem bits_and1 (x : Nat) (hx : x < B) : bits .and .u64 (x : Int) 1 = ((x % 2 : Nat) : Int) := by
  have := bits_and_u64_nat x 1 (by rw [← B_val]; exact hx) (by omega)
  rw [Nat.and_one_is_mod] at this
  exact this
theorem lb_testBit (n i : Nat) (j : Nat) : (lb n i).testBit j = (decide (j < 64) && n.testBit (64 * i + j)) := by
  unfold lb
  rw [show B ^ i = 2 ^ (64 * i) from by rw [show B = 2 ^ 64 from rfl, ← Nat.pow_mul], show B = 2 ^ 64 from rfl, Nat.testBit_mod_two_pow, Nat.testBit_div_two_pow, Nat.add_comm]
theorem testBit_mod2 (n i : Nat) : (n / 2 ^ i % 2 = 1) = (n.testBit i = true) := by
  rw [Nat.testBit_eq_decide_div_mod_eq]; simp

set_option maxHeartbeats 2000000 in
theorem limb_Bit (v : Value) (l n i : Nat) (hi : i ≤ 100000) (w0 : World) (h : LimbAt w0 v l n) : GivesAt Tryz.prog 147 #[v, .int .i64 i] (.bool (n.testBit i)) w0 := by
  have hst := St.start [] w0
  have hda := fun (i : Nat) (w : World) (hst : Keeps [] w0 w) => limb_at v l n i w (h.keep hst)
  have hd1 := hda (i / 64)
  obtain ⟨x, hx⟩ : ∃ x, x = lb n (i / 64) := ⟨_, rfl⟩
  have hxB : x < B := by rw [hx]; exact lb_lt _ _
  obtain ⟨y, hy⟩ : ∃ y, y = x / 2 ^ (i % 64) := ⟨_, rfl⟩
  have hyB : y < B := by rw [hy]; exact Nat.lt_of_le_of_lt (Nat.div_le_self _ _) hxB
  have hand := bits_and1 y hyB
  have hres : ((y : Int) % 2 == 1) = n.testBit i := by
    have e : n.testBit i = x.testBit (i % 64) := by
      rw [hx, lb_testBit, show 64 * (i / 64) + i % 64 = i by omega]
      have : i % 64 < 64 := by omega
      simp [this]
    rw [e, Bool.eq_iff_iff, ← testBit_mod2, ← hy]
    simp; omega
  obtain ⟨q, hq⟩ : ∃ q, q = i / 64 := ⟨_, rfl⟩
  obtain ⟨r, hr⟩ : ∃ r, r = i % 64 := ⟨_, rfl⟩
  have Q1 : (i : Int) / 64 = (q : Int) := by omega
  have Q2 : (i : Int) % 64 = (r : Int) := by omega
  have Q3 : (0 : Int) ≤ (i : Int) := by omega
  have Q4 : (0 : Int) ≤ (r : Int) := by omega
  have Q5 : (i : Int).tdiv 64 = (q : Int) := by rw [Int.tdiv_eq_ediv_of_nonneg (by omega)]; exact Q1
  have Q6 : (i : Int).tmod 64 = (r : Int) := by rw [Int.tmod_eq_emod_of_nonneg (by omega)]; exact Q2
  have hy' : (x : Int) / 2 ^ r = (y : Int) := by rw [hy, ← hr, cast_pow2]; omega
  rw [← hx, ← hq] at hd1
  have hqs : q ≤ 100000 := by omega
  have hrs : r < 64 := by omega
  have hres' := Lib.hid hres
  clear hres hx hxB hy hyB hq hr h hda
  go_enter Tryz.func147, Tryz.ntmps147
  go_wp2_with ((first | (refine kg gf109 hst (fun w hst => hd1 w hst.keeps) rfl rfl rfl rfl ?_; clear hst; intro w hst) | (refine wl_guard (by rfl) ?_)); try simp only [pz, pn, sz, sc])
  refine bp_t rfl rfl (by rfl) ⟨?_, hst.keeps⟩
  rw [hres'.out]; rfl

/-- What wide.at tells. -/
def wat (n : Nat) (i : Int) (y : Nat) : Nat := if i < 0 then 0 else if 8 ≤ i then y else lb n i.toNat
theorem wat_lt (n : Nat) (i : Int) (y : Nat) (hy : y < B) : wat n i y < B := by
  unfold wat; split
  · exact B_pos
  · split
    · exact hy
    · exact lb_lt _ _

theorem wide_at (n : Nat) (i : Int) (y : Nat) : Gives Tryz.prog 103 #[W n, .int .i64 i, .int .u64 y] (.int .u64 (wat n i y : Nat)) := by
  intro w0
  have hst := St.start [] w0
  by_cases h1 : i < 0
  · have e : wat n i y = 0 := by unfold wat; rw [if_pos h1]
    rw [e]
    go_enter Tryz.func103, Tryz.ntmps103
    go_wp2_with ((first | (refine kb 3 hst rfl rfl ?_; clear hst; intro b3 w hb3 hst) | (refine kc hst tc22 rfl ?_)); try simp only [pz, pn, sz, sc])
    refine bp_t rfl rfl (by rfl) ⟨?_, hst.keeps⟩
    rfl
  · by_cases h2 : 8 ≤ i
    · have e : wat n i y = y := by unfold wat; rw [if_neg h1, if_pos h2]
      rw [e]
      go_enter Tryz.func103, Tryz.ntmps103
      go_wp2_with ((first | (refine kb 3 hst rfl rfl ?_; clear hst; intro b3 w hb3 hst) | (refine kc hst tc22 rfl ?_)); try simp only [pz, pn, sz, sc])
      refine bp_t rfl rfl (by rfl) ⟨?_, hst.keeps⟩
      rfl
    · obtain ⟨j, rfl⟩ := Int.eq_ofNat_of_zero_le (show 0 ≤ i by omega)
      have e : wat n (j : Int) y = lb n j := by unfold wat; rw [if_neg h1, if_neg h2]; rfl
      rw [e]
      have h3 : (0 : Int) ≤ (j : Int) := by omega
      have h4 : (j : Int) < 8 := by omega
      have h5 : j < 8 := by omega
      clear e
      go_enter Tryz.func103, Tryz.ntmps103
      go_wp2_with ((first | (refine kb 3 hst rfl rfl ?_; clear hst; intro b3 w hb3 hst) | (refine kc hst tc22 rfl ?_)); try simp only [pz, pn, sz, sc])
      refine bp_t rfl rfl (by rfl) ⟨?_, hst.keeps⟩
      rfl

/-- By how much a number is shifted. -/
def clampN (n : Int) : Nat := if n < 0 then 0 else if 512 < n then 512 else n.toNat
theorem clampN_le (n : Int) : clampN n ≤ 512 := by unfold clampN; split <;> (try split) <;> omega
theorem clampN_nat (n : Nat) (h : n ≤ 512) : clampN n = n := by unfold clampN; rw [if_neg (by omega), if_neg (by omega)]; omega

theorem wide_clamp (n : Int) : Gives Tryz.prog 100 #[.int .i64 n] (.int .i64 (clampN n : Nat)) := by
  intro w0
  have hst := St.start [] w0
  obtain ⟨c, hc⟩ : ∃ c, c = clampN n := ⟨_, rfl⟩
  rw [← hc]
  by_cases h1 : n ≤ 512
  · have m1 : (if n ≤ 512 then n else 512) = n := by rw [if_pos h1]
    have m1' : (if (512 : Int) < n then 512 else n) = n := by rw [if_neg (by omega)]
    have m2 : min n 512 = n := by omega
    by_cases h2 : n ≤ 0
    · have m4 : max 0 n = (c : Int) := by rw [hc]; unfold clampN; split <;> (try split) <;> omega
      have e0 : c = 0 := by omega
      have hc' := Lib.hid hc
      clear hc
      subst e0
      go_enter Tryz.func100, Tryz.ntmps100
      go_wp2_with fail
      refine bp_t rfl rfl (by rfl) ⟨?_, hst.keeps⟩
      go_num
    · have m4 : max 0 n = (c : Int) := by rw [hc]; unfold clampN; split <;> (try split) <;> omega
      have e0 : n = (c : Int) := by omega
      clear hc
      subst e0
      go_enter Tryz.func100, Tryz.ntmps100
      go_wp2_with fail
      refine bp_t rfl rfl (by rfl) ⟨?_, hst.keeps⟩
      go_num
  · have m2 : min n 512 = 512 := by omega
    have e0 : c = 512 := by rw [hc]; unfold clampN; rw [if_neg (by omega), if_pos (by omega)]
    clear hc
    subst e0
    go_enter Tryz.func100, Tryz.ntmps100
    go_wp2_with fail
    refine bp_t rfl rfl (by rfl) ⟨?_, hst.keeps⟩
    go_num

theorem LimbAt.wide {w : World} {b n : Nat} {E : TypeId} {fr : Nat × Nat} (hn : n < M) (h : w.heap[b]? = some (.cells (wc 8 n) E fr)) : LimbAt w (.slice (some ⟨b, 0, none⟩) 8 8) 8 n :=
  ⟨hn, by omega, b, 8, 8, n, E, fr, rfl, by omega, by omega, h, Nat.mod_eq_of_lt hn⟩

set_option maxHeartbeats 2000000 in
theorem wide_Cmp (a b : Nat) (ha : a < M) (hb : b < M) : Gives Tryz.prog 93 #[W a, W b] (.int .i64 (cmp a b)) := by
  intro w0
  have hst := St.start [] w0
  have hless := fun (b2 b3 : Nat) (w : World) (h2 : w.heap[b2]? = some (.cells (wc 8 a) 24)) (h3 : w.heap[b3]? = some (.cells (wc 8 b) 24)) => limb_Less _ _ 8 8 a b w (LimbAt.wide ha h2) (LimbAt.wide hb h3)
  by_cases h : a = b
  · subst h
    have e : cmp a a = 0 := by simp [cmp]
    rw [e]
    clear hless e
    have hd := decide_eq_true (show a = a from rfl)
    go_enter Tryz.func93, Tryz.ntmps93
    go_wp2_with ((first | (refine kb 2 hst rfl rfl ?_; clear hst; intro b2 w hb2 hst) | (refine kb 3 hst rfl rfl ?_; clear hst; intro b3 w hb3 hst) | (refine kl hst ta24 rfl ?_) | (refine klm hst ta24 rfl ?_) | (refine ke tr24 tc22 rfl ?_)); try simp only [pz, pn, sz, sc])
    refine bp_t rfl rfl (by rfl) ⟨?_, hst.keeps⟩
    rfl
  · have hd := decide_eq_false h
    by_cases hl : a < b
    · have e : cmp a b = -1 := by unfold cmp; rw [if_pos hl]
      rw [e]
      have hd2 := decide_eq_true hl
      rw [hd2] at hless
      clear e h hl hd2
      go_enter Tryz.func93, Tryz.ntmps93
      go_wp2_with ((first | (refine kb 2 hst rfl rfl ?_; clear hst; intro b2 w hb2 hst) | (refine kb 3 hst rfl rfl ?_; clear hst; intro b3 w hb3 hst) | (refine kl hst ta24 rfl ?_) | (refine klm hst ta24 rfl ?_) | (refine ke tr24 tc22 rfl ?_)); try simp only [pz, pn, sz, sc])
      refine wp_region_T 4  hst (by kernel_rfl) ?_; clear hst; intro w hst; (try dsimp only [List.length_cons, List.length_nil]); (try simp only [List.length_cons, List.length_nil, Nat.reduceAdd, Array.replicate_succ, Array.replicate_zero, List.push_toArray, List.nil_append, List.cons_append])
      refine r0 0 ?_; simp only [pz, pn, sz, sc]
      refine r0 1 ?_; simp only [pz, pn, sz, sc]
      refine r1 2 ?_; (first | (refine kg gf99 hst (fun w hst => hless b2 b3 w (hst.own _ _ (by repeat (first | exact List.Mem.head _ | refine List.Mem.tail _ ?_))) (hst.own _ _ (by repeat (first | exact List.Mem.head _ | refine List.Mem.tail _ ?_)))) rfl rfl rfl rfl ?_; clear hst; intro w hst) | (refine kp ?_)); (try simp only [pz, pn, sz, sc]); refine re ?_
      refine r0 3 ?_; simp only [pz, pn, sz, sc]
      refine rd_ ?_
      go_wp2_with ((first | (refine kb 2 hst rfl rfl ?_; clear hst; intro b2 w hb2 hst) | (refine kb 3 hst rfl rfl ?_; clear hst; intro b3 w hb3 hst) | (refine kl hst ta24 rfl ?_) | (refine klm hst ta24 rfl ?_) | (refine ke tr24 tc22 rfl ?_)); try simp only [pz, pn, sz, sc])
      refine bp_t rfl rfl (by rfl) ⟨?_, hst.keeps⟩
      rfl
    · have e : cmp a b = 1 := by unfold cmp; rw [if_neg hl, if_pos (by omega)]
      rw [e]
      have hd2 := decide_eq_false hl
      rw [hd2] at hless
      clear e h hl hd2
      go_enter Tryz.func93, Tryz.ntmps93
      go_wp2_with ((first | (refine kb 2 hst rfl rfl ?_; clear hst; intro b2 w hb2 hst) | (refine kb 3 hst rfl rfl ?_; clear hst; intro b3 w hb3 hst) | (refine kl hst ta24 rfl ?_) | (refine klm hst ta24 rfl ?_) | (refine ke tr24 tc22 rfl ?_)); try simp only [pz, pn, sz, sc])
      refine wp_region_T 4  hst (by kernel_rfl) ?_; clear hst; intro w hst; (try dsimp only [List.length_cons, List.length_nil]); (try simp only [List.length_cons, List.length_nil, Nat.reduceAdd, Array.replicate_succ, Array.replicate_zero, List.push_toArray, List.nil_append, List.cons_append])
      refine r0 0 ?_; simp only [pz, pn, sz, sc]
      refine r0 1 ?_; simp only [pz, pn, sz, sc]
      refine r1 2 ?_; (first | (refine kg gf99 hst (fun w hst => hless b2 b3 w (hst.own _ _ (by repeat (first | exact List.Mem.head _ | refine List.Mem.tail _ ?_))) (hst.own _ _ (by repeat (first | exact List.Mem.head _ | refine List.Mem.tail _ ?_)))) rfl rfl rfl rfl ?_; clear hst; intro w hst) | (refine kp ?_)); (try simp only [pz, pn, sz, sc]); refine re ?_
      refine r0 3 ?_; simp only [pz, pn, sz, sc]
      refine rd_ ?_
      go_wp2_with ((first | (refine kb 2 hst rfl rfl ?_; clear hst; intro b2 w hb2 hst) | (refine kb 3 hst rfl rfl ?_; clear hst; intro b3 w hb3 hst) | (refine kl hst ta24 rfl ?_) | (refine klm hst ta24 rfl ?_) | (refine ke tr24 tc22 rfl ?_)); try simp only [pz, pn, sz, sc])
      refine bp_t rfl rfl (by rfl) ⟨?_, hst.keeps⟩
      rfl

theorem wide_Len (a : Nat) (ha : a < M) : Gives Tryz.prog 92 #[W a] (.int .i64 (bl a : Nat)) := by
  intro w0
  have hst := St.start [] w0
  have hlen := fun (b1 : Nat) (w : World) (h : w.heap[b1]? = some (.cells (wc 8 a) 24)) => limb_Len b1 0 8 8 8 a 24 (0, 0) (by omega) (by omega) (by omega) w h
  rw [Nat.pow_zero, Nat.div_one, ← M_eq, Nat.mod_eq_of_lt ha] at hlen
  go_enter Tryz.func92, Tryz.ntmps92
  go_wp2_with ((first | (refine kg gf98 hst (fun w hst => hlen b1 w (hst.own _ _ (by repeat (first | exact List.Mem.head _ | refine List.Mem.tail _ ?_)))) rfl rfl rfl rfl ?_; clear hst; intro w hst) | (refine kb 1 hst rfl rfl ?_; clear hst; intro b1 w hb1 hst)); try simp only [pz, pn, sz, sc])
  refine bp_t rfl rfl (by rfl) ⟨?_, hst.keeps⟩
  rfl

theorem wide_Bit (a i : Nat) (ha : a < M) (hi : i ≤ 100000) : Gives Tryz.prog 136 #[W a, .int .i64 i] (.bool (a.testBit i)) := by
  intro w0
  have hst := St.start [] w0
  have hlen := fun (b1 : Nat) (w : World) (h : w.heap[b1]? = some (.cells (wc 8 a) 24)) => limb_Bit _ 8 a i hi w (LimbAt.wide ha h)
  go_enter Tryz.func136, Tryz.ntmps136
  go_wp2_with ((first | (refine kg gf147 hst (fun w hst => hlen b2 w (hst.own _ _ (by repeat (first | exact List.Mem.head _ | refine List.Mem.tail _ ?_)))) rfl rfl rfl rfl ?_; clear hst; intro w hst) | (refine kb 2 hst rfl rfl ?_; clear hst; intro b2 w hb2 hst)); try simp only [pz, pn, sz, sc])
  refine bp_t rfl rfl (by rfl) ⟨?_, hst.keeps⟩
  rfl

/-- Is a number, taken with a sign, below 0? -/
def minusB (a : Nat) : Bool := a.testBit 511
theorem wide_Minus (a : Nat) (ha : a < M) : Gives Tryz.prog 122 #[W a] (.bool (minusB a)) := by
  intro w0
  have hst := St.start [] w0
  have h := wide_Bit a 511 ha (by omega)
  go_enter Tryz.func122, Tryz.ntmps122
  go_wp2_with ((first | (refine kf gf136 hst (h) rfl rfl rfl rfl ?_; clear hst; intro w hst) | (refine kb 1 hst rfl rfl ?_; clear hst; intro b1 w hb1 hst) | (refine kl hst ta24 rfl ?_) | (refine klm hst ta24 rfl ?_)); try simp only [pz, pn, sz, sc])
  refine bp_t rfl rfl (by rfl) ⟨?_, hst.keeps⟩
  rfl

theorem wide_Neg (a : Nat) (ha : a < M) : Gives Tryz.prog 146 #[W a] (W ((M - a) % M)) := by
  intro w0
  have hst := St.start [] w0
  have h := wide_Sub 0 a (by decide) ha
  rw [Nat.zero_add, W_zero] at h
  go_enter Tryz.func146, Tryz.ntmps146
  go_wp2_with ((first | (refine kf gf95 hst (h) rfl rfl rfl rfl ?_; clear hst; intro w hst) | (refine kb 1 hst rfl rfl ?_; clear hst; intro b1 w hb1 hst) | (refine ka 2 hst tz24 rfl rfl ?_; clear hst; intro b2 w hb2 hst) | (refine kl hst ta24 rfl ?_) | (refine klm hst ta24 rfl ?_) | (refine ka 3 hst tz24 rfl rfl ?_; clear hst; intro b3 w hb3 hst) | (refine kt hst ta24 rfl rfl ?_; clear hst; intro w hst) | (refine ktm hst ta24 rfl rfl ?_; clear hst; intro w hst)); try simp only [pz, pn, sz, sc])
  refine bp_c rfl rfl (la hst ta24) ⟨?_, hst.keeps⟩
  rfl

end Go.Proofs.YtggchelniblipaaGreatDoor.Rd

namespace Go.Proofs.YtggchelniblipaaGreatDoor.Rd
open Go Go.RowKit
set_option linter.unusedVariables false
set_option linter.unusedSimpArgs false
set_option maxRecDepth 100000

theorem M_pos : 0 < M := Nat.pow_pos B_pos

/-- The number of so many limbs that a function tells. -/
def lsum (f : Nat → Nat) : Nat → Nat
  | 0 => 0
  | k + 1 => lsum f k + f k * B ^ k
theorem lsum_lt (f : Nat → Nat) (hf : ∀ i, f i < B) : ∀ k, lsum f k < B ^ k
  | 0 => by simp [lsum]
  | k + 1 => by
    have h1 := lsum_lt f hf k
    have h2 := Nat.mul_le_mul_right (B ^ k) (Nat.le_sub_one_of_lt (hf k))
    rw [Nat.sub_mul, Nat.one_mul] at h2
    have h5 : B ^ k ≤ B * B ^ k := Nat.le_mul_of_pos_left _ B_pos
    simp only [lsum]
    rw [Nat.pow_succ, Nat.mul_comm (B ^ k) B]
    omega
theorem lsum_lb (n : Nat) : ∀ k, lsum (lb n) k = n % B ^ k
  | 0 => by simp [lsum, Nat.mod_one]
  | k + 1 => by simp only [lsum]; rw [lsum_lb n k, lb_split]
theorem lsum_congr {f g : Nat → Nat} : ∀ {k : Nat}, (∀ i, i < k → f i = g i) → lsum f k = lsum g k
  | 0, _ => rfl
  | k + 1, h => by simp only [lsum]; rw [lsum_congr (fun i hi => h i (by omega)), h k (by omega)]
theorem lsum_of {f : Nat → Nat} {n : Nat} (hn : n < M) (h : ∀ i, i < 8 → f i = lb n i) : lsum f 8 = n := by
  rw [lsum_congr h, lsum_lb, ← M_eq, Nat.mod_eq_of_lt hn]

set_option maxHeartbeats 2000000 in
theorem wide_made (g : FuncId) (hg : GoF Tryz.prog g) (cap : Array Value) (f : Nat → Nat) (hf : ∀ i, f i < B) (w0 : World)
    (hgf : ∀ i w, i < 8 → Keeps [] w0 w → GivesAt Tryz.prog g ([Value.int .i64 (i : Nat)] ++ cap.toList).toArray (.int .u64 (f i : Nat)) w) :
    GivesAt Tryz.prog 101 #[.func (.func g) #[] cap] (W (lsum f 8)) w0 := by
  have hst := St.start [] w0
  have hf' := Lib.hid hf
  clear hf
  go_enter Tryz.func101, Tryz.ntmps101
  go_wp2_with ((first | (refine ka 2 hst tz24 rfl rfl ?_; clear hst; intro b2 w hb2 hst) | (refine ka 3 hst tz24 rfl rfl ?_; clear hst; intro b3 w hb3 hst) | (refine ks hst tc22 rfl rfl ?_; clear hst; intro w hst) | (refine kl hst ta24 rfl ?_) | (refine klm hst ta24 rfl ?_) | (refine kt hst ta24 rfl rfl ?_; clear hst; intro w hst) | (refine ktm hst ta24 rfl rfl ?_; clear hst; intro w hst)); try simp only [pz, pn, sz, sc])
  go_loopw [4, 5] (fun u i wr => ∃ k : Nat, k ≤ 8 ∧ i = .int .i64 k ∧ St w0 [] [(b3, .cells (wc 8 (lsum f k)) 24), (b2, .cells (wc 8 0) 24)] wr) (fun _ i _ => 8 - (intOf i).toNat)
  case atStart => exact ⟨0, by omega, rfl, hst⟩
  case round =>
    clear hst
    obtain ⟨k, hk, rfl, hst⟩ := hrel
    have hl1 := Lib.hid (lsum_lt f hf'.out k)
    by_cases hlt : k < 8
    · have hi0 : (0 : Int) ≤ (k : Int) := by omega
      have hi8 : (k : Int) < 8 := by omega
      have hc := fun w h => hgf k w hlt h
      have hfk := Lib.hid (hf'.out k)
      have hset := Lib.hid (wc_set 8 (lsum f k) (f k) k hl1.out hfk.out)
      go_wp2_with ((first | (refine kg hg hst (fun w hst => hc w hst.keeps) rfl rfl rfl rfl ?_; clear hst; intro w hst) | (refine ka 2 hst tz24 rfl rfl ?_; clear hst; intro b2 w hb2 hst) | (refine ka 3 hst tz24 rfl rfl ?_; clear hst; intro b3 w hb3 hst) | (refine ks hst tc22 rfl rfl ?_; clear hst; intro w hst; (try rw [hset.out] at hst)) | (refine kl hst ta24 rfl ?_) | (refine klm hst ta24 rfl ?_) | (refine kt hst ta24 rfl rfl ?_; clear hst; intro w hst; (try rw [hset.out] at hst)) | (refine ktm hst ta24 rfl rfl ?_; clear hst; intro w hst; (try rw [hset.out] at hst))); try simp only [pz, pn, sz, sc])
      go_roundw
      case rel => exact ⟨k + 1, by omega, by go_num, hst⟩
      case measure => simp [intOf]; omega
    · have : k = 8 := by omega
      subst this
      go_wp2_with ((first | (refine ka 2 hst tz24 rfl rfl ?_; clear hst; intro b2 w hb2 hst) | (refine ka 3 hst tz24 rfl rfl ?_; clear hst; intro b3 w hb3 hst) | (refine ks hst tc22 rfl rfl ?_; clear hst; intro w hst) | (refine kl hst ta24 rfl ?_) | (refine klm hst ta24 rfl ?_) | (refine kt hst ta24 rfl rfl ?_; clear hst; intro w hst) | (refine ktm hst ta24 rfl rfl ?_; clear hst; intro w hst)); try simp only [pz, pn, sz, sc])
      refine bp_c rfl rfl (la hst ta24) ⟨?_, hst.keeps⟩
      rfl

theorem bits_or64 (a b : Nat) (ha : a < B) (hb : b < B) : bits .or .u64 (a : Int) (b : Int) = ((a ||| b : Nat) : Int) := bits_or_u64_nat a b (by rw [← B_val]; exact ha) (by rw [← B_val]; exact hb)
theorem mod_B (x j : Nat) : (x % B).testBit j = (decide (j < 64) && x.testBit j) := by rw [show B = 2 ^ 64 from rfl, Nat.testBit_mod_two_pow]
theorem mod_M (x j : Nat) : (x % M).testBit j = (decide (j < 512) && x.testBit j) := by
  have key : ∀ m, M = 2 ^ m → (x % M).testBit j = (decide (j < m) && x.testBit j) := fun m e => by rw [e, Nat.testBit_mod_two_pow]
  exact key (64 * 8) (by rw [M_eq, show B = 2 ^ 64 from rfl, ← Nat.pow_mul])
theorem high_bit {x : Nat} (h : x < B) {j : Nat} (hj : 64 ≤ j) : x.testBit j = false := Nat.testBit_lt_two_pow (Nat.lt_of_lt_of_le h (by rw [show B = 2 ^ 64 from rfl]; exact Nat.pow_le_pow_right (by omega) hj))
theorem M_bit {x : Nat} (h : x < M) {j : Nat} (hj : 512 ≤ j) : x.testBit j = false := by
  have := mod_M x j
  rw [Nat.mod_eq_of_lt h] at this
  rw [this]
  have : ¬ j < 512 := by omega
  simp [this]
theorem wat_bit (n : Nat) (i : Int) (y j : Nat) (hj : j < 64) (hn : n < M) : (wat n i y).testBit j = if i < 0 then false else if 8 ≤ i then y.testBit j else n.testBit (64 * i.toNat + j) := by
  unfold wat
  split
  · simp
  · split
    · rfl
    · rw [lb_testBit]; simp [hj]

theorem i64w (x : Int) (h1 : -9223372036854775808 ≤ x) (h2 : x ≤ 9223372036854775807) : IntKind.i64.wrap x = x := by
  have hs : IntKind.i64.signed = true := rfl
  have hb : (2 : Int) ^ IntKind.i64.bits = 18446744073709551616 := rfl
  have hb' : (2 : Int) ^ (IntKind.i64.bits - 1) = 9223372036854775808 := rfl
  simp only [IntKind.wrap, hs, hb, hb', Bool.true_and]
  split <;> rename_i h <;> simp at h <;> omega

/-- A limb of a number that is shifted up. -/
def shlL (a c i : Nat) : Nat := wat a ((i : Int) - (c / 64 : Nat)) 0 * 2 ^ (c % 64) % B ||| wat a ((i : Int) - (c / 64 : Nat) - 1) 0 / 2 ^ (64 - c % 64)
theorem or_B {x y : Nat} (hx : x < B) (hy : y < B) : x ||| y < B := Nat.or_lt_two_pow hx hy
theorem shlL_lt (a c i : Nat) : shlL a c i < B := or_B (Nat.mod_lt _ B_pos) (Nat.lt_of_le_of_lt (Nat.div_le_self _ _) (wat_lt _ _ _ B_pos))
theorem shl_limb (a c i : Nat) (ha : a < M) (hi : i < 8) : shlL a c i = lb (a * 2 ^ c % M) i := by
  apply Nat.eq_of_testBit_eq
  intro j
  have hr : c % 64 < 64 := Nat.mod_lt _ (by omega)
  have hq : c = 64 * (c / 64) + c % 64 := by omega
  by_cases hj : j < 64
  · rw [lb_testBit, mod_M, Nat.mul_comm a, Nat.testBit_two_pow_mul]
    unfold shlL
    rw [Nat.testBit_or, mod_B, Nat.mul_comm (wat _ _ _), Nat.testBit_two_pow_mul, Nat.testBit_div_two_pow]
    generalize c / 64 = q at *
    generalize c % 64 = r at *
    subst hq
    have e1 : decide (64 * i + j < 512) = true := by simp; omega
    rw [e1]
    simp only [hj, decide_true, Bool.true_and]
    by_cases h1 : r ≤ j
    · have h2 : (wat a ((i : Int) - q - 1) 0).testBit (j + (64 - r)) = false := by
        by_cases h3 : j + (64 - r) < 64
        · omega
        · exact high_bit (wat_lt _ _ _ B_pos) (by omega)
      rw [h2, wat_bit _ _ _ _ (by omega) ha]
      simp only [h1, decide_true, Bool.true_and, Bool.or_false]
      by_cases h4 : i < q
      · rw [if_pos (by omega)]
        have : ¬ (64 * q + r ≤ 64 * i + j) := by omega
        simp [this]
      · rw [if_neg (by omega), if_neg (by omega)]
        have : 64 * q + r ≤ 64 * i + j := by omega
        simp only [this, decide_true, Bool.true_and]
        congr 1; omega
    · have h2 : decide (r ≤ j) = false := by simpa using h1
      rw [h2]
      simp only [Bool.false_and, Bool.false_or]
      rw [wat_bit _ _ _ _ (by omega) ha]
      by_cases h4 : i < q + 1
      · rw [if_pos (by omega)]
        have : ¬ (64 * q + r ≤ 64 * i + j) := by omega
        simp [this]
      · rw [if_neg (by omega), if_neg (by omega)]
        have : 64 * q + r ≤ 64 * i + j := by omega
        simp only [this, decide_true, Bool.true_and]
        congr 1; omega
  · rw [high_bit (shlL_lt a c i) (by omega), high_bit (lb_lt _ _) (by omega)]

set_option maxHeartbeats 4000000 in
theorem wide_Shl_1 (a c i : Nat) (ha : a < M) (hc : c ≤ 512) (hi : i < 8) (b1 b2 b3 : Nat) (E1 E2 E3 : TypeId) (h12 : b2 ≠ b1) (h13 : b3 ≠ b1) (h23 : b3 ≠ b2) (w0 : World)
    (h1 : w0.heap[b1]? = some (.cells (wc 8 a) E1)) (h2 : w0.heap[b2]? = some (.cells #[.int .i64 (c / 64 : Nat)] E2)) (h3 : w0.heap[b3]? = some (.cells #[.int .i64 (c % 64 : Nat)] E3)) :
    GivesAt Tryz.prog 102 #[.int .i64 (i : Nat), .pointer (some ⟨b1, 0, none⟩), .pointer (some ⟨b2, 0, none⟩), .pointer (some ⟨b3, 0, none⟩)] (.int .u64 (shlL a c i : Nat)) w0 := by
  have hst := (((St.start [] w0).add h1 (by simp)).add h2 (by simpa using h12)).add h3 (by simp; exact ⟨h23, h13⟩)
  have hx := wide_at a ((i : Int) - (c / 64 : Nat)) 0
  have hy := wide_at a ((i : Int) - (c / 64 : Nat) - 1) 0
  have hxB := wat_lt a ((i : Int) - (c / 64 : Nat)) 0 B_pos
  have hyB := wat_lt a ((i : Int) - (c / 64 : Nat) - 1) 0 B_pos
  unfold shlL
  have hq : c / 64 ≤ 8 := by omega
  have hr : c % 64 < 64 := Nat.mod_lt _ (by omega)
  generalize c / 64 = q at *
  generalize c % 64 = r at *
  generalize wat a ((i : Int) - (q : Nat)) 0 = x at *
  generalize wat a ((i : Int) - (q : Nat) - 1) 0 = y at *
  obtain ⟨s, hs⟩ : ∃ s, s = x * 2 ^ r % B := ⟨_, rfl⟩
  obtain ⟨t, ht⟩ : ∃ t, t = y / 2 ^ (64 - r) := ⟨_, rfl⟩
  have hsB : s < B := by rw [hs]; exact Nat.mod_lt _ B_pos
  have htB : t < B := by rw [ht]; exact Nat.lt_of_le_of_lt (Nat.div_le_self _ _) hyB
  rw [← hs, ← ht]
  have F1 : IntKind.u64.wrap ((x : Int) * 2 ^ r) = (s : Int) := u64_wrap' _ (x * 2 ^ r) _ (by rw [cast_pow2]; exact (Int.natCast_mul _ _).symm) hs.symm
  have er : ((64 : Int) - (r : Int)).toNat = 64 - r := by omega
  have F2 : (y : Int) / 2 ^ (64 - r) = (t : Int) := by rw [ht, cast_pow2]; omega
  have F3 := bits_or64 s t hsB htB
  have F4 : (0 : Int) ≤ 64 - (r : Int) := by omega
  have F5 : (0 : Int) ≤ (r : Int) := by omega
  have w1 : IntKind.i64.wrap ((i : Int) - (q : Int)) = (i : Int) - q := i64w _ (by omega) (by omega)
  have w2 : IntKind.i64.wrap ((i : Int) - (q : Int) - 1) = (i : Int) - q - 1 := i64w _ (by omega) (by omega)
  have w3 : IntKind.i64.wrap (64 - (r : Int)) = ((64 - r : Nat) : Int) := by rw [i64w _ (by omega) (by omega)]; omega
  clear hs ht hsB htB hxB hyB h1 h2 h3 ha
  go_enter Tryz.func102, Tryz.ntmps102
  go_wp2_with ((first | (refine kl hst ta24 rfl ?_) | (refine klm hst ta24 rfl ?_) | (refine kc hst tc3 rfl ?_)); try simp only [pz, pn, sz, sc])
  refine wp_region_T 18  hst (by kernel_rfl) ?_; clear hst; intro w hst; (try dsimp only [List.length_cons, List.length_nil]); (try simp only [List.length_cons, List.length_nil, Nat.reduceAdd, Array.replicate_succ, Array.replicate_zero, List.push_toArray, List.nil_append, List.cons_append])
  refine r0 1 ?_; simp only [pz, pn, sz, sc, w1, w2, w3, F1, F2, F3]
  refine r0 8 ?_; simp only [pz, pn, sz, sc, w1, w2, w3, F1, F2, F3]
  refine rl 0 rfl ?_ (by first | exact ylA ta24 | exact ylM ta24); simp only [pz, pn, sz, sc, w1, w2, w3, F1, F2, F3]
  refine rl 2 rfl ?_ (ylC tc3); simp only [pz, pn, sz, sc, w1, w2, w3, F1, F2, F3]
  refine r0 3 ?_; simp only [pz, pn, sz, sc, w1, w2, w3, F1, F2, F3]
  refine rl 5 rfl ?_ (ylC tc3); simp only [pz, pn, sz, sc, w1, w2, w3, F1, F2, F3]
  refine rl 7 rfl ?_ (by first | exact ylA ta24 | exact ylM ta24); simp only [pz, pn, sz, sc, w1, w2, w3, F1, F2, F3]
  refine rl 9 rfl ?_ (ylC tc3); simp only [pz, pn, sz, sc, w1, w2, w3, F1, F2, F3]
  refine r0 10 ?_; simp only [pz, pn, sz, sc, w1, w2, w3, F1, F2, F3]
  refine r0 11 ?_; simp only [pz, pn, sz, sc, w1, w2, w3, F1, F2, F3]
  refine rl 13 rfl ?_ (ylC tc3); simp only [pz, pn, sz, sc, w1, w2, w3, F1, F2, F3]
  refine r0 14 ?_; simp only [pz, pn, sz, sc, w1, w2, w3, F1, F2, F3]
  refine r1 4 ?_; (first | (refine kf gf103 hst (hx) rfl rfl rfl rfl ?_; clear hst; intro w hst) | (refine kf gf103 hst (hy) rfl rfl rfl rfl ?_; clear hst; intro w hst) | (refine kp ?_)); (try simp only [pz, pn, sz, sc, w1, w2, w3, F1, F2, F3]); refine re ?_
  refine r0 6 ?_; simp only [pz, pn, sz, sc, w1, w2, w3, F1, F2, F3]
  refine r1 12 ?_; (first | (refine kf gf103 hst (hx) rfl rfl rfl rfl ?_; clear hst; intro w hst) | (refine kf gf103 hst (hy) rfl rfl rfl rfl ?_; clear hst; intro w hst) | (refine kp ?_)); (try simp only [pz, pn, sz, sc, w1, w2, w3, F1, F2, F3]); refine re ?_
  refine r0 15 ?_; simp only [pz, pn, sz, sc, w1, w2, w3, F1, F2, F3]
  refine r0 16 ?_; simp only [pz, pn, sz, sc, w1, w2, w3, F1, F2, F3]
  refine r0 17 ?_; simp only [pz, pn, sz, sc, w1, w2, w3, F1, F2, F3]
  refine rd_ ?_
  go_wp2_with ((first | (refine kl hst ta24 rfl ?_) | (refine klm hst ta24 rfl ?_) | (refine kc hst tc3 rfl ?_)); try simp only [pz, pn, sz, sc])
  refine bp_t rfl rfl (by rfl) ⟨?_, hst.keeps⟩
  rfl

set_option maxHeartbeats 4000000 in
theorem wide_Shl (a : Nat) (n : Int) (ha : a < M) : Gives Tryz.prog 94 #[W a, .int .i64 n] (W (a * 2 ^ clampN n % M)) := by
  intro w0
  have hst := St.start [] w0
  have hcl := wide_clamp n
  have hc := clampN_le n
  generalize clampN n = c at *
  have hres : lsum (shlL a c) 8 = a * 2 ^ c % M := lsum_of (Nat.mod_lt _ M_pos) (fun i hi => shl_limb a c i ha hi)
  have hmade := fun b2 b5 b6 w (h12 : b5 ≠ b2) (h13 : b6 ≠ b2) (h23 : b6 ≠ b5) (h1 : w.heap[b2]? = some (.cells (wc 8 a) 24)) (h2 : w.heap[b5]? = some (.cells #[.int .i64 (c / 64 : Nat)] 3)) (h3 : w.heap[b6]? = some (.cells #[.int .i64 (c % 64 : Nat)] 3)) =>
    wide_made 102 gf102 #[.pointer (some ⟨b2, 0, none⟩), .pointer (some ⟨b5, 0, none⟩), .pointer (some ⟨b6, 0, none⟩)] (shlL a c) (shlL_lt a c) w
      (fun i w' hi k => wide_Shl_1 a c i ha hc hi b2 b5 b6 _ _ _ h12 h13 h23 w' (by rw [k.block _ (lt_of_some h1) (by simp)]; exact h1) (by rw [k.block _ (lt_of_some h2) (by simp)]; exact h2) (by rw [k.block _ (lt_of_some h3) (by simp)]; exact h3))
  rw [hres] at hmade
  have Q1 : (c : Int) / 64 = ((c / 64 : Nat) : Int) := by omega
  have Q2 : (c : Int) % 64 = ((c % 64 : Nat) : Int) := by omega
  have Q3 : (0 : Int) ≤ (c : Int) := by omega
  have Q5 : (c : Int).tdiv 64 = ((c / 64 : Nat) : Int) := by rw [Int.tdiv_eq_ediv_of_nonneg (by omega)]; exact Q1
  have Q6 : (c : Int).tmod 64 = ((c % 64 : Nat) : Int) := by rw [Int.tmod_eq_emod_of_nonneg (by omega)]; exact Q2
  have hq : c / 64 ≤ 8 := by omega
  have hr : c % 64 < 64 := Nat.mod_lt _ (by omega)
  have hc' := Lib.hid hc
  clear hres hc
  generalize c / 64 = q at *
  generalize c % 64 = r at *
  generalize a * 2 ^ c % M = m at *
  go_enter Tryz.func94, Tryz.ntmps94
  go_wp2_with ((first | (refine kf gf100 hst (hcl) rfl rfl rfl rfl ?_; clear hst; intro w hst) | (refine kg gf101 hst (fun w hst => hmade b2 b5 b6 w (by have q := hst.nodup; simp only [List.map_cons, List.map_nil, List.nodup_cons, List.mem_cons, List.not_mem_nil, or_false, not_or] at q; omega) (by have q := hst.nodup; simp only [List.map_cons, List.map_nil, List.nodup_cons, List.mem_cons, List.not_mem_nil, or_false, not_or] at q; omega) (by have q := hst.nodup; simp only [List.map_cons, List.map_nil, List.nodup_cons, List.mem_cons, List.not_mem_nil, or_false, not_or] at q; omega) (hst.own _ _ (by repeat (first | exact List.Mem.head _ | refine List.Mem.tail _ ?_))) (hst.own _ _ (by repeat (first | exact List.Mem.head _ | refine List.Mem.tail _ ?_))) (hst.own _ _ (by repeat (first | exact List.Mem.head _ | refine List.Mem.tail _ ?_)))) rfl rfl rfl rfl ?_; clear hst; intro w hst) | (refine kb 2 hst rfl rfl ?_; clear hst; intro b2 w hb2 hst) | (refine ka 4 hst tz24 rfl rfl ?_; clear hst; intro b4 w hb4 hst) | (refine ka 5 hst tz3 rfl rfl ?_; clear hst; intro b5 w hb5 hst) | (refine ka 6 hst tz3 rfl rfl ?_; clear hst; intro b6 w hb6 hst) | (refine ks hst tc3 rfl rfl ?_; clear hst; intro w hst) | (refine kt hst ta24 rfl rfl ?_; clear hst; intro w hst) | (refine ktm hst ta24 rfl rfl ?_; clear hst; intro w hst)); try simp only [pz, pn, sz, sc])
  refine bp_c rfl rfl (la hst ta24) ⟨?_, hst.keeps⟩
  rfl

end Go.Proofs.YtggchelniblipaaGreatDoor.Rd
