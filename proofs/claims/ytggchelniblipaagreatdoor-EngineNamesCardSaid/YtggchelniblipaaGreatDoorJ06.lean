/- What wide.Power and the layer prod answer, as numbers. -/
import Derived.Test.YtggchelniblipaaGreatDoorJ02
namespace Go.Proofs.YtggchelniblipaaGreatDoor.Rd
open Go Go.RowKit
set_option linter.unusedVariables false
set_option linter.unusedSimpArgs false
set_option maxRecDepth 100000

/-- A number with another limb at a place. -/
def setL (m j d : Nat) : Nat := m % B ^ j + d * B ^ j + m / B ^ (j + 1) * B ^ (j + 1)

theorem setL_eq (m j d : Nat) : setL m j d + lb m j * B ^ j = m + d * B ^ j := by
  have h1 := Nat.div_add_mod m (B ^ (j + 1))
  have h2 := lb_split m j
  unfold setL
  rw [Nat.mul_comm] at h1
  omega

theorem lb_setL (m j d i : Nat) (hd : d < B) : lb (setL m j d) i = if i = j then d else lb m i := by
  have hlo : m % B ^ j < B ^ j := Nat.mod_lt _ (Bp_pos j)
  have hlow : m % B ^ j + d * B ^ j < B ^ (j + 1) := by
    rw [Nat.pow_succ, Nat.mul_comm (B ^ j)]
    have : (d + 1) * B ^ j ≤ B * B ^ j := Nat.mul_le_mul_right _ hd
    rw [Nat.add_mul, Nat.one_mul] at this
    omega
  unfold setL
  rcases Nat.lt_or_ge j i with h | h
  · rw [if_neg (by omega)]
    unfold lb
    have e : B ^ i = B ^ (j + 1) * B ^ (i - (j + 1)) := by rw [← Nat.pow_add]; congr 1; omega
    rw [e, ← Nat.div_div_eq_div_mul, ← Nat.div_div_eq_div_mul, Nat.add_mul_div_right _ _ (Bp_pos (j + 1)), Nat.div_eq_of_lt hlow, Nat.zero_add]
  · have e : m / B ^ (j + 1) * B ^ (j + 1) = B ^ i * (B * (m / B ^ (j + 1) * B ^ (j - i))) := by
      have : B ^ (j + 1) = B ^ i * (B * B ^ (j - i)) := by rw [← Nat.pow_succ', ← Nat.pow_add]; congr 1; omega
      rw [Nat.mul_comm (m / B ^ (j + 1)) (B ^ (j - i)), ← Nat.mul_assoc B, ← Nat.mul_assoc (B ^ i), ← this, Nat.mul_comm]
    have h2 : lb (m % B ^ j + d * B ^ j + m / B ^ (j + 1) * B ^ (j + 1)) i = lb (m % B ^ j + d * B ^ j) i := by
      unfold lb
      rw [e, Nat.add_mul_div_left _ _ (Bp_pos i), Nat.add_mul_mod_self_left]
    rw [h2, lb_add_at _ _ _ _ hlo hd]
    by_cases hij : i = j
    · rw [if_pos hij, if_pos hij]
    · rw [if_neg hij, if_neg hij]
      have := lb_part m 0 j i (by omega)
      simpa using this

theorem wc_setL (k m j d : Nat) (hd : d < B) : (wc k m).setIfInBounds j (.int .u64 (d : Nat)) = wc k (setL m j d) := by
  apply Array.ext_getElem?
  intro i
  rw [Array.getElem?_setIfInBounds]
  by_cases hk : i < k
  · rw [wc_get k _ i hk, wc_get k _ i hk, lb_setL m j d i hd, wc_size]
    by_cases h : j = i
    · subst h; simp [hk]
    · rw [if_neg h, if_neg (by omega)]
  · have e1 : (wc k m)[i]? = none := Array.getElem?_eq_none (by simp; omega)
    have e2 : (wc k (setL m j d))[i]? = none := Array.getElem?_eq_none (by simp; omega)
    rw [e1, e2, wc_size]
    split
    · rename_i h; subst h; rw [if_neg hk]
    · rfl

theorem setL_lt (m j d k : Nat) (hm : m < B ^ k) (hd : d < B) (hj : j < k) : setL m j d < B ^ k := by
  have h : setL m j d % B ^ k = setL m j d := by
    have : setL m j d / B ^ k = 0 := by
      have e : B ^ k = B ^ (j + 1) * B ^ (k - (j + 1)) := by rw [← Nat.pow_add]; congr 1; omega
      have hlow : m % B ^ j + d * B ^ j < B ^ (j + 1) := by
        have hlo : m % B ^ j < B ^ j := Nat.mod_lt _ (Bp_pos j)
        rw [Nat.pow_succ, Nat.mul_comm (B ^ j)]
        have : (d + 1) * B ^ j ≤ B * B ^ j := Nat.mul_le_mul_right _ hd
        rw [Nat.add_mul, Nat.one_mul] at this
        omega
      unfold setL
      rw [e, ← Nat.div_div_eq_div_mul, Nat.add_mul_div_right _ _ (Bp_pos (j + 1)), Nat.div_eq_of_lt hlow, Nat.zero_add, Nat.div_div_eq_div_mul, ← e]
      exact Nat.div_eq_of_lt hm
    rw [Nat.mod_eq_of_lt]
    exact (Nat.div_eq_zero_iff_lt (Bp_pos k)).1 this
  rw [← h]
  exact Nat.mod_lt _ (Bp_pos k)

/-- A step of a carry. -/
theorem carry_step (m j x c : Nat) : setL m j ((lb m j + x + c) % B) + (lb m j + x + c) / B * B ^ (j + 1) = m + (x + c) * B ^ j := by
  have h := setL_eq m j ((lb m j + x + c) % B)
  have e := Nat.div_add_mod (lb m j + x + c) B
  generalize (lb m j + x + c) / B = q at *
  generalize (lb m j + x + c) % B = r at *
  have e2 : (B * q + r) * B ^ j = (lb m j + x + c) * B ^ j := by rw [e]
  rw [Nat.add_mul, Nat.add_mul, Nat.add_mul, Nat.mul_assoc] at e2
  rw [Nat.add_mul, Nat.pow_succ', ← Nat.mul_assoc, Nat.mul_comm q B, Nat.mul_assoc]
  omega

set_option maxHeartbeats 4000000 in
theorem prod_put (b n i x : Nat) (E : TypeId) (hn : n < B ^ 17) (hx : x < B) (hi : i ≤ 16) (w0 : World) (hb : w0.heap[b]? = some (.cells (wc 17 n) E (0, 0))) :
    Calls Tryz.prog 155 #[.pointer (some ⟨b, 0, none⟩), .int .i64 i, .int .u64 x] w0 fun e w' => e = .returned (.tuple #[]) ∧ Keeps [b] w0 w' ∧ w'.heap[b]? = some (.cells (wc 17 ((n + x * B ^ i) % B ^ 17)) E (0, 0)) := by
  have hst := (St.start [b] w0).add hb (by simp)
  clear hb
  have hadd := limb_Add (lb n i) x 0 (lb_lt _ _) hx (by omega)
  have hi0 : (0 : Int) ≤ (i : Int) := by omega
  have hi17 : (i : Int) < 17 := by omega
  have hcs := carry_step n i x 0
  have hc1 := (add_lt (lb n i) x 0 (lb_lt _ _) hx (by omega)).2
  have hs1 := (add_lt (lb n i) x 0 (lb_lt _ _) hx (by omega)).1
  have hlt1 := setL_lt n i _ 17 hn hs1 (by omega)
  have hset := wc_setL 17 n i _ hs1
  generalize hq : (lb n i + x + 0) / B = q at *
  generalize hr : (lb n i + x + 0) % B = r at *
  clear hq hr
  have hset' := Lib.hid hset
  clear hset
  go_enter Tryz.func155, Tryz.ntmps155
  go_wp2_with ((first | (refine kc hst tc22 rfl ?_) | (refine ks hst tc22 rfl rfl ?_; clear hst; intro w hst)); try simp only [pz, pn, sz, sc])
  refine wp_region_T 14  hst (by kernel_rfl) ?_; clear hst; intro w hst; (try dsimp only [List.length_cons, List.length_nil]); (try simp only [List.length_cons, List.length_nil, Nat.reduceAdd, Array.replicate_succ, Array.replicate_zero, List.push_toArray, List.nil_append, List.cons_append])
  refine r0 0 ?_; simp only [pz, pn, sz, sc]
  refine r0 1 ?_; simp only [pz, pn, sz, sc]
  refine r0 2 ?_; simp only [pz, pn, sz, sc]
  refine r0 3 ?_; simp only [pz, pn, sz, sc]
  refine r0 4 ?_; simp only [pz, pn, sz, sc]
  refine r0 5 ?_; simp only [pz, pn, sz, sc]
  refine r0 7 ?_; simp only [pz, pn, sz, sc]
  refine r0 12 ?_; simp only [pz, pn, sz, sc]
  refine rl 6 rfl ?_ (ylC tc22); simp only [pz, pn, sz, sc]
  refine r1 8 ?_; (first | (refine kf gf106 hst (hadd) rfl rfl rfl rfl ?_; clear hst; intro w hst) | (refine kp ?_)); (try simp only [pz, pn, sz, sc]); refine re ?_
  refine r0 9 ?_; simp only [pz, pn, sz, sc]
  refine r0 10 ?_; simp only [pz, pn, sz, sc]
  refine r0 11 ?_; simp only [pz, pn, sz, sc]
  refine r0 13 ?_; simp only [pz, pn, sz, sc]
  refine r1 14 ?_; (refine ks hst tc22 rfl rfl ?_; clear hst; intro w hst; (try rw [hset'.out] at hst)); (try simp only [pz, pn, sz, sc]); refine re ?_
  refine r0 15 ?_; simp only [pz, pn, sz, sc]
  refine rd_ ?_
  go_wp2_with ((first | (refine kc hst tc22 rfl ?_) | (refine ks hst tc22 rfl rfl ?_; clear hst; intro w hst)); try simp only [pz, pn, sz, sc])
  go_loopw [1, 6] (fun j c wr => ∃ (k m u : Nat), k ≤ 17 ∧ u ≤ 1 ∧ m < B ^ 17 ∧ m + u * B ^ k = n + x * B ^ i ∧ j = .int .i64 k ∧ c = .int .u64 u ∧ St w0 [b] [(b, .cells (wc 17 m) E (0, 0))] wr) (fun j _ _ => 17 - (intOf j).toNat)
  case atStart => exact ⟨i + 1, _, q, by omega, hc1, hlt1, by rw [hcs, Nat.add_zero], by go_num, rfl, hst⟩
  case round =>
    clear hst hset' hadd hcs hc1 hs1 hlt1 hi0 hi17
    obtain ⟨k, m, u, hk, hu, hm, he, rfl, rfl, hst⟩ := hrel
    by_cases h0 : u = 0
    · subst h0
      have hm2 : m = (n + x * B ^ i) % B ^ 17 := by
        rw [Nat.zero_mul, Nat.add_zero] at he
        rw [← he, Nat.mod_eq_of_lt hm]
      subst hm2
      go_wp2_with ((first | (refine kc hst tc22 rfl ?_) | (refine ks hst tc22 rfl rfl ?_; clear hst; intro w hst)); try simp only [pz, pn, sz, sc])
      exact bp_0 rfl rfl ⟨rfl, hst.keeps, hst.own _ _ (by simp)⟩
    · have hu1 : u = 1 := by omega
      subst hu1
      by_cases h1 : k ≤ 16
      · have hk0 : (0 : Int) ≤ (k : Int) := by omega
        have hk17 : (k : Int) < 17 := by omega
        have hadd := limb_Add (lb m k) 0 1 (lb_lt _ _) B_pos (by omega)
        have hcs := carry_step m k 0 1
        have hc1 := (add_lt (lb m k) 0 1 (lb_lt _ _) B_pos (by omega)).2
        have hs1 := (add_lt (lb m k) 0 1 (lb_lt _ _) B_pos (by omega)).1
        have hlt1 := setL_lt m k _ 17 hm hs1 (by omega)
        have hset := wc_setL 17 m k _ hs1
        generalize hq : (lb m k + 0 + 1) / B = q at *
        generalize hr : (lb m k + 0 + 1) % B = r at *
        clear hq hr
        have hset' := Lib.hid hset
        have he' := Lib.hid he
        have hcs' := Lib.hid hcs
        clear hset he hcs
        go_wp2_with ((first | (refine kc hst tc22 rfl ?_) | (refine ks hst tc22 rfl rfl ?_; clear hst; intro w hst)); try simp only [pz, pn, sz, sc])
        refine wp_region_T 14  hst (by kernel_rfl) ?_; clear hst; intro w hst; (try dsimp only [List.length_cons, List.length_nil]); (try simp only [List.length_cons, List.length_nil, Nat.reduceAdd, Array.replicate_succ, Array.replicate_zero, List.push_toArray, List.nil_append, List.cons_append])
        refine r0 0 ?_; simp only [pz, pn, sz, sc]
        refine r0 1 ?_; simp only [pz, pn, sz, sc]
        refine r0 2 ?_; simp only [pz, pn, sz, sc]
        refine r0 3 ?_; simp only [pz, pn, sz, sc]
        refine r0 4 ?_; simp only [pz, pn, sz, sc]
        refine r0 5 ?_; simp only [pz, pn, sz, sc]
        refine r0 7 ?_; simp only [pz, pn, sz, sc]
        refine r0 12 ?_; simp only [pz, pn, sz, sc]
        refine rl 6 rfl ?_ (ylC tc22); simp only [pz, pn, sz, sc]
        refine r1 8 ?_; (first | (refine kf gf106 hst (hadd) rfl rfl rfl rfl ?_; clear hst; intro w hst) | (refine kp ?_)); (try simp only [pz, pn, sz, sc]); refine re ?_
        refine r0 9 ?_; simp only [pz, pn, sz, sc]
        refine r0 10 ?_; simp only [pz, pn, sz, sc]
        refine r0 11 ?_; simp only [pz, pn, sz, sc]
        refine r0 13 ?_; simp only [pz, pn, sz, sc]
        refine r1 14 ?_; (refine ks hst tc22 rfl rfl ?_; clear hst; intro w hst; (try rw [hset'.out] at hst)); (try simp only [pz, pn, sz, sc]); refine re ?_
        refine r0 15 ?_; simp only [pz, pn, sz, sc]
        refine rd_ ?_
        go_wp2_with ((first | (refine kc hst tc22 rfl ?_) | (refine ks hst tc22 rfl rfl ?_; clear hst; intro w hst)); try simp only [pz, pn, sz, sc])
        go_roundw
        case rel => exact ⟨k + 1, _, q, by omega, hc1, hlt1, by rw [hcs'.out, ← he'.out], by go_num, rfl, hst⟩
        case measure => simp [intOf]; omega
      · have h17 : k = 17 := by omega
        subst h17
        have hm2 : m = (n + x * B ^ i) % B ^ 17 := by
          rw [← he, Nat.one_mul, Nat.add_mod_right, Nat.mod_eq_of_lt hm]
        subst hm2
        clear he
        go_wp2_with ((first | (refine kc hst tc22 rfl ?_) | (refine ks hst tc22 rfl rfl ?_; clear hst; intro w hst)); try simp only [pz, pn, sz, sc])
        exact bp_0 rfl rfl ⟨rfl, hst.keeps, hst.own _ _ (by simp)⟩

end Go.Proofs.YtggchelniblipaaGreatDoor.Rd

namespace Go.Proofs.YtggchelniblipaaGreatDoor.Rd
open Go Go.RowKit
set_option linter.unusedVariables false
set_option linter.unusedSimpArgs false
set_option maxRecDepth 100000

/-- The limbs' products of one row, as p tells which places count. -/
def inner (p : Nat → Bool) (a b i : Nat) : Nat → Nat
  | 0 => 0
  | k + 1 => inner p a b i k + if p (i + k) = true then lb a i * lb b k * B ^ (i + k) else 0
/-- All rows. -/
def outer (p : Nat → Bool) (a b : Nat) : Nat → Nat
  | 0 => 0
  | i + 1 => outer p a b i + inner p a b i 8

theorem term_le (a b i k : Nat) (hi : i < 8) (hk : k < 8) : lb a i * lb b k * B ^ (i + k) ≤ B ^ 16 := by
  have h1 : lb a i * lb b k ≤ B * B := Nat.mul_le_mul (Nat.le_of_lt (lb_lt _ _)) (Nat.le_of_lt (lb_lt _ _))
  have h2 : B ^ (i + k) ≤ B ^ 14 := Nat.pow_le_pow_right B_pos (by omega)
  have h3 : B ^ 16 = B * B * B ^ 14 := by rw [Nat.pow_succ, Nat.pow_succ, Nat.mul_assoc, Nat.mul_comm]
  rw [h3]
  exact Nat.mul_le_mul h1 h2
theorem inner_le (p : Nat → Bool) (a b i : Nat) (hi : i < 8) : ∀ k, k ≤ 8 → inner p a b i k ≤ k * B ^ 16
  | 0, _ => by simp [inner]
  | k + 1, hk => by
    have h1 := inner_le p a b i hi k (by omega)
    have h2 := term_le a b i k hi (by omega)
    simp only [inner]
    rw [Nat.add_mul, Nat.one_mul]
    split <;> omega
theorem outer_le (p : Nat → Bool) (a b : Nat) : ∀ i, i ≤ 8 → outer p a b i ≤ i * 8 * B ^ 16
  | 0, _ => by simp [outer]
  | i + 1, hi => by
    have h1 := outer_le p a b i (by omega)
    have h2 := inner_le p a b i (by omega) 8 (by omega)
    simp only [outer]
    have : (i + 1) * 8 * B ^ 16 = i * 8 * B ^ 16 + 8 * B ^ 16 := by rw [Nat.add_mul, Nat.add_mul]
    omega

/-- What is gathered so far. -/
def far (p : Nat → Bool) (a b i k : Nat) : Nat := outer p a b i + inner p a b i k
theorem far_lt (p : Nat → Bool) (a b i k : Nat) (hi : i < 8) (hk : k ≤ 8) : far p a b i k ≤ 64 * B ^ 16 := by
  have h1 := outer_le p a b i (by omega)
  have h2 := inner_le p a b i hi k hk
  unfold far
  have h3 : k * B ^ 16 ≤ 8 * B ^ 16 := Nat.mul_le_mul_right _ hk
  have h4 : i * 8 * B ^ 16 ≤ 56 * B ^ 16 := Nat.mul_le_mul_right _ (by omega)
  have h5 : 64 * B ^ 16 = 56 * B ^ 16 + 8 * B ^ 16 := by rw [← Nat.add_mul]
  omega
theorem B17 : B ^ 17 = B * B ^ 16 := by rw [Nat.pow_succ, Nat.mul_comm]
theorem far_lt' (p : Nat → Bool) (a b i k : Nat) (hi : i < 8) (hk : k ≤ 8) : far p a b i k < B ^ 17 := by
  have := far_lt p a b i k hi hk
  have h2 : 65 * B ^ 16 ≤ B * B ^ 16 := Nat.mul_le_mul_right _ (by rw [B_val]; omega)
  have h3 : 0 < B ^ 16 := Bp_pos 16
  rw [B17]; omega

/-- One product is put. -/
theorem far_step (p : Nat → Bool) (a b i k : Nat) (hi : i < 8) (hk : k < 8) (hp : p (i + k) = true) :
    far p a b i k + lb a i * lb b k % B * B ^ (i + k) < B ^ 17 ∧
    far p a b i k + lb a i * lb b k % B * B ^ (i + k) + lb a i * lb b k / B * B ^ (i + k + 1) = far p a b i (k + 1) := by
  have h1 : far p a b i (k + 1) = far p a b i k + lb a i * lb b k * B ^ (i + k) := by simp [far, inner, hp, Nat.add_assoc]
  have h2 : lb a i * lb b k % B * B ^ (i + k) + lb a i * lb b k / B * B ^ (i + k + 1) = lb a i * lb b k * B ^ (i + k) := by
    have e := Nat.div_add_mod (lb a i * lb b k) B
    generalize lb a i * lb b k / B = q at *
    generalize lb a i * lb b k % B = r at *
    rw [← e, Nat.pow_succ', ← Nat.mul_assoc, Nat.mul_comm q B, Nat.add_mul]; omega
  have h3 := far_lt' p a b i (k + 1) hi (by omega)
  omega
theorem far_skip (p : Nat → Bool) (a b i k : Nat) (hp : ¬ p (i + k) = true) : far p a b i (k + 1) = far p a b i k := by simp [far, inner, hp]
theorem far_next (p : Nat → Bool) (a b i : Nat) : far p a b i 8 = far p a b (i + 1) 0 := by simp [far, outer, inner]

set_option maxHeartbeats 8000000 in
theorem prod_whole (a b : Nat) (g : FuncId) (hg : GoF Tryz.prog g) (cap : Array Value) (p : Nat → Bool) (w0 : World)
    (hp : ∀ w, Keeps [] w0 w → ∀ k : Nat, k ≤ 14 → GivesAt Tryz.prog g ([Value.int .i64 k] ++ cap.toList).toArray (.bool (p k)) w) :
    GivesAt Tryz.prog 151 #[W a, W b, .func (.func g) #[] cap] (.agg (wc 17 (outer p a b 8))) w0 := by
  have hst := St.start [] w0
  go_enter Tryz.func151, Tryz.ntmps151
  go_wp2_with ((first | (refine kb 3 hst rfl rfl ?_; clear hst; intro b3 w hb3 hst) | (refine kb 4 hst rfl rfl ?_; clear hst; intro b4 w hb4 hst) | (refine ka 6 hst tz212 rfl rfl ?_; clear hst; intro b6 w hb6 hst) | (refine ka 7 hst tz212 rfl rfl ?_; clear hst; intro b7 w hb7 hst) | (refine kl hst ta24 rfl ?_) | (refine klm hst ta24 rfl ?_) | (refine ki tr24 tc22 rfl ?_) | (refine kl hst ta212 rfl ?_) | (refine klm hst ta212 rfl ?_) | (refine kt hst ta212 rfl rfl ?_; clear hst; intro w hst) | (refine ktm hst ta212 rfl rfl ?_; clear hst; intro w hst)); try simp only [pz, pn, sz, sc])
  go_loopw [15] (fun x wr => ∃ i : Nat, i ≤ 8 ∧ x = .int .i64 i ∧
    St w0 [] [(b7, .cells (wc 17 (far p a b i 0)) 212), (b6, .cells (wc 17 0) 212), (b4, .cells (wc 8 b) 24), (b3, .cells (wc 8 a) 24)] wr) (fun x _ => 8 - (intOf x).toNat)
  case atStart => exact ⟨0, by omega, rfl, hst⟩
  case round =>
    clear hst
    obtain ⟨i, hi, rfl, hst⟩ := hrel
    by_cases hlt : i < 8
    · have hi0 : (0 : Int) ≤ (i : Int) := by omega
      have hi8 : (i : Int) < 8 := by omega
      have hget := wc_get 8 a i hlt
      go_wp2_with ((first | (refine kb 3 hst rfl rfl ?_; clear hst; intro b3 w hb3 hst) | (refine kb 4 hst rfl rfl ?_; clear hst; intro b4 w hb4 hst) | (refine ka 6 hst tz212 rfl rfl ?_; clear hst; intro b6 w hb6 hst) | (refine ka 7 hst tz212 rfl rfl ?_; clear hst; intro b7 w hb7 hst) | (refine kl hst ta24 rfl ?_) | (refine klm hst ta24 rfl ?_) | (refine ki tr24 tc22 rfl ?_) | (refine kl hst ta212 rfl ?_) | (refine klm hst ta212 rfl ?_) | (refine kt hst ta212 rfl rfl ?_; clear hst; intro w hst) | (refine ktm hst ta212 rfl rfl ?_; clear hst; intro w hst)); try simp only [pz, pn, sz, sc])
      clear hget
      go_loopw [20] (fun y wr => ∃ k : Nat, k ≤ 8 ∧ y = .int .i64 k ∧
        St w0 [] [(b7, .cells (wc 17 (far p a b i k)) 212), (b6, .cells (wc 17 0) 212), (b4, .cells (wc 8 b) 24), (b3, .cells (wc 8 a) 24)] wr) (fun y _ => 8 - (intOf y).toNat)
      case atStart => exact ⟨0, by omega, rfl, hst⟩
      case round =>
        clear hst
        obtain ⟨k, hk, rfl, hst⟩ := hrel
        by_cases hlk : k < 8
        · have hk0 : (0 : Int) ≤ (k : Int) := by omega
          have hk8 : (k : Int) < 8 := by omega
          have hcp : ∀ w, St w0 [] [(b7, .cells (wc 17 (far p a b i k)) 212), (b6, .cells (wc 17 0) 212), (b4, .cells (wc 8 b) 24), (b3, .cells (wc 8 a) 24)] w → GivesAt Tryz.prog g (Value.int .i64 ((i : Int) + (k : Int)) :: cap.toList).toArray (.bool (p (i + k))) w := fun w hst => by
            have := hp w hst.keeps (i + k) (by omega)
            simpa using this
          by_cases hpk : p (i + k) = true
          · rw [hpk] at hcp
            have hm := limb_Mul (lb a i) (lb b k) (lb_lt _ _) (lb_lt _ _)
            obtain ⟨hs1, hs2⟩ := far_step p a b i k hlt hlk hpk
            have hp1 := fun w hw => prod_put b7 (far p a b i k) (i + k) (lb a i * lb b k % B) 212 (far_lt' p a b i k hlt hk) (Nat.mod_lt _ B_pos) (by omega) w hw
            rw [Nat.mod_eq_of_lt hs1] at hp1
            have hp2 := fun w hw => prod_put b7 (far p a b i k + lb a i * lb b k % B * B ^ (i + k)) (i + k + 1) (lb a i * lb b k / B) 212 hs1 (by rw [Nat.div_lt_iff_lt_mul B_pos]; exact Nat.mul_lt_mul'' (lb_lt _ _) (lb_lt _ _)) (by omega) w hw
            rw [hs2, Nat.mod_eq_of_lt (far_lt' p a b i (k + 1) hlt (by omega))] at hp2
            clear hs1 hs2 hpk
            have e1 : ((i + k : Nat) : Int) = (i : Int) + (k : Int) := by omega
            have e2 : ((i + k + 1 : Nat) : Int) = (i : Int) + (k : Int) + 1 := by omega
            rw [e1] at hp1
            rw [e2] at hp2
            clear e1 e2
            go_wp2_with ((first | (refine kg hg hst (hcp) rfl rfl rfl rfl ?_; clear hst; intro w hst) | (refine kf gf154 hst (hm) rfl rfl rfl rfl ?_; clear hst; intro w hst) | (refine km gf155 hst (hp1) rfl rfl rfl rfl ?_; clear hst; intro w hst) | (refine km gf155 hst (hp2) rfl rfl rfl rfl ?_; clear hst; intro w hst) | (refine kb 3 hst rfl rfl ?_; clear hst; intro b3 w hb3 hst) | (refine kb 4 hst rfl rfl ?_; clear hst; intro b4 w hb4 hst) | (refine ka 6 hst tz212 rfl rfl ?_; clear hst; intro b6 w hb6 hst) | (refine ka 7 hst tz212 rfl rfl ?_; clear hst; intro b7 w hb7 hst) | (refine kl hst ta24 rfl ?_) | (refine klm hst ta24 rfl ?_) | (refine ki tr24 tc22 rfl ?_) | (refine kl hst ta212 rfl ?_) | (refine klm hst ta212 rfl ?_) | (refine kt hst ta212 rfl rfl ?_; clear hst; intro w hst) | (refine ktm hst ta212 rfl rfl ?_; clear hst; intro w hst)); try simp only [pz, pn, sz, sc])
            go_roundw
            case rel => exact ⟨k + 1, by omega, by go_num, hst⟩
            case measure => simp [intOf]; omega
          · have hpk' : p (i + k) = false := by simpa using hpk
            rw [hpk'] at hcp
            have hs := far_skip p a b i k hpk
            clear hpk hpk'
            rw [← hs] at hst
            go_wp2_with ((first | (refine kg hg hst (fun w hst => hcp w (by rw [← hs]; exact hst)) rfl rfl rfl rfl ?_; clear hst; intro w hst) | (refine kb 3 hst rfl rfl ?_; clear hst; intro b3 w hb3 hst) | (refine kb 4 hst rfl rfl ?_; clear hst; intro b4 w hb4 hst) | (refine ka 6 hst tz212 rfl rfl ?_; clear hst; intro b6 w hb6 hst) | (refine ka 7 hst tz212 rfl rfl ?_; clear hst; intro b7 w hb7 hst) | (refine kl hst ta24 rfl ?_) | (refine klm hst ta24 rfl ?_) | (refine ki tr24 tc22 rfl ?_) | (refine kl hst ta212 rfl ?_) | (refine klm hst ta212 rfl ?_) | (refine kt hst ta212 rfl rfl ?_; clear hst; intro w hst) | (refine ktm hst ta212 rfl rfl ?_; clear hst; intro w hst)); try simp only [pz, pn, sz, sc])
            go_roundw
            case rel => exact ⟨k + 1, by omega, by go_num, hst⟩
            case measure => simp [intOf]; omega
        · have h8 : k = 8 := by omega
          subst h8
          rw [far_next] at hst
          go_wp2_with ((first | (refine kb 3 hst rfl rfl ?_; clear hst; intro b3 w hb3 hst) | (refine kb 4 hst rfl rfl ?_; clear hst; intro b4 w hb4 hst) | (refine ka 6 hst tz212 rfl rfl ?_; clear hst; intro b6 w hb6 hst) | (refine ka 7 hst tz212 rfl rfl ?_; clear hst; intro b7 w hb7 hst) | (refine kl hst ta24 rfl ?_) | (refine klm hst ta24 rfl ?_) | (refine ki tr24 tc22 rfl ?_) | (refine kl hst ta212 rfl ?_) | (refine klm hst ta212 rfl ?_) | (refine kt hst ta212 rfl rfl ?_; clear hst; intro w hst) | (refine ktm hst ta212 rfl rfl ?_; clear hst; intro w hst)); try simp only [pz, pn, sz, sc])
          go_roundw
          case rel => exact ⟨i + 1, by omega, by go_num, hst⟩
          case measure => simp [intOf]; omega
    · have h8 : i = 8 := by omega
      subst h8
      have hfar : far p a b 8 0 = outer p a b 8 := by simp [far, inner]
      rw [hfar] at hst
      clear hfar
      go_wp2_with ((first | (refine kb 3 hst rfl rfl ?_; clear hst; intro b3 w hb3 hst) | (refine kb 4 hst rfl rfl ?_; clear hst; intro b4 w hb4 hst) | (refine ka 6 hst tz212 rfl rfl ?_; clear hst; intro b6 w hb6 hst) | (refine ka 7 hst tz212 rfl rfl ?_; clear hst; intro b7 w hb7 hst) | (refine kl hst ta24 rfl ?_) | (refine klm hst ta24 rfl ?_) | (refine ki tr24 tc22 rfl ?_) | (refine kl hst ta212 rfl ?_) | (refine klm hst ta212 rfl ?_) | (refine kt hst ta212 rfl rfl ?_; clear hst; intro w hst) | (refine ktm hst ta212 rfl rfl ?_; clear hst; intro w hst)); try simp only [pz, pn, sz, sc])
      refine bp_c rfl rfl (la hst ta212) ⟨?_, hst.keeps⟩
      rfl

end Go.Proofs.YtggchelniblipaaGreatDoor.Rd

namespace Go.Proofs.YtggchelniblipaaGreatDoor.Rd
open Go Go.RowKit
set_option linter.unusedVariables false
set_option linter.unusedSimpArgs false
set_option maxRecDepth 100000

theorem inner_all (a b i : Nat) : ∀ k, inner (fun _ => true) a b i k = lb a i * B ^ i * (b % B ^ k)
  | 0 => by simp [inner, Nat.mod_one]
  | k + 1 => by
    simp only [inner, if_true]
    rw [inner_all a b i k, lb_split b k, Nat.mul_add]
    congr 1
    rw [Nat.pow_add, Nat.mul_assoc, Nat.mul_assoc, Nat.mul_left_comm (lb b k)]
theorem outer_all (a b : Nat) (hb : b < M) : ∀ i, outer (fun _ => true) a b i = a % B ^ i * b
  | 0 => by simp [outer, Nat.mod_one]
  | i + 1 => by
    simp only [outer]
    rw [outer_all a b hb i, inner_all, lb_split a i, Nat.add_mul, ← M_eq, Nat.mod_eq_of_lt hb]
theorem outer_mul (a b : Nat) (ha : a < M) (hb : b < M) : outer (fun _ => true) a b 8 = a * b := by
  rw [outer_all a b hb, ← M_eq, Nat.mod_eq_of_lt ha]

theorem prod_all (k : Int) : Gives Tryz.prog 152 #[.int .i64 k] (.bool true) := by
  intro w0
  have hst := St.start [] w0
  go_enter Tryz.func152, Tryz.ntmps152
  go_wp2_with fail
  refine bp_t rfl rfl (by rfl) ⟨?_, hst.keeps⟩
  rfl

theorem mul_lt17 (a b : Nat) (ha : a < M) (hb : b < M) : a * b < B ^ 17 := by
  have h1 : a * b < M * M := Nat.mul_lt_mul'' ha hb
  have h2 : M * M = B ^ 16 := by rw [M_eq, ← Nat.pow_add]
  have h3 : B ^ 16 ≤ B ^ 17 := Nat.pow_le_pow_right B_pos (by omega)
  omega

theorem bl_beq (n : Nat) : bl n = 0 ↔ n = 0 := by
  constructor
  · intro h
    by_cases h0 : n = 0
    · exact h0
    · have := bl_pos h0; omega
  · intro h; subst h; rfl

theorem high_zero (n : Nat) (hn : n < B ^ 17) : bl (n / B ^ 8 % B ^ 9) = 0 ↔ n < M := by
  rw [bl_beq]
  have h1 : n / B ^ 8 < B ^ 9 := by
    rw [Nat.div_lt_iff_lt_mul (Bp_pos 8), ← Nat.pow_add]; exact hn
  rw [Nat.mod_eq_of_lt h1, Nat.div_eq_zero_iff_lt (Bp_pos 8), ← M_eq]

set_option maxHeartbeats 4000000 in
theorem prod_Mul (a b : Nat) (ha : a < M) (hb : b < M) : Gives Tryz.prog 142 #[W a, W b] (.tuple #[W (a * b % M), .bool (decide (a * b < M))]) := by
  intro w0
  have hst := St.start [] w0
  have hw := fun w => prod_whole a b 152 gf152 #[] (fun _ => true) w (fun w' _ k _ => prod_all k w')
  rw [outer_mul a b ha hb] at hw
  have hlt := mul_lt17 a b ha hb
  have hh := high_zero (a * b) hlt
  generalize a * b = n at *
  have hof := fun (b6 : Nat) w (h : w.heap[b6]? = some (.cells (wc 17 n) 212 (0, 0))) => wide_Of b6 0 8 17 17 n 212 (0, 0) (by omega) w h
  rw [Nat.pow_zero, Nat.div_one, show min 8 8 = 8 from rfl, ← M_eq] at hof
  have hlen := fun (b6 : Nat) w (h : w.heap[b6]? = some (.cells (wc 17 n) 212 (0, 0))) => limb_Len b6 8 9 9 17 n 212 (0, 0) (by omega) (by omega) (by omega) w h
  have hres : ((bl (n / B ^ 8 % B ^ 9) : Int) == 0) = decide (n < M) := by rw [cast_beq0]; simp [hh]
  generalize bl (n / B ^ 8 % B ^ 9) = q at *
  clear hh
  have hres' := Lib.hid hres
  clear hres
  go_enter Tryz.func142, Tryz.ntmps142
  go_wp2_with ((first | (refine kf gf151 hst (hw) rfl rfl rfl rfl ?_; clear hst; intro w hst) | (refine kb 2 hst rfl rfl ?_; clear hst; intro b2 w hb2 hst) | (refine kb 3 hst rfl rfl ?_; clear hst; intro b3 w hb3 hst) | (refine ka 4 hst tz24 rfl rfl ?_; clear hst; intro b4 w hb4 hst) | (refine kl hst ta24 rfl ?_) | (refine klm hst ta24 rfl ?_) | (refine ka 6 hst tz212 rfl rfl ?_; clear hst; intro b6 w hb6 hst) | (refine kt hst ta212 rfl rfl ?_; clear hst; intro w hst) | (refine ktm hst ta212 rfl rfl ?_; clear hst; intro w hst) | (refine kt hst ta24 rfl rfl ?_; clear hst; intro w hst) | (refine ktm hst ta24 rfl rfl ?_; clear hst; intro w hst)); try simp only [pz, pn, sz, sc])
  refine wp_region_T 5  hst (by kernel_rfl) ?_; clear hst; intro w hst; (try dsimp only [List.length_cons, List.length_nil]); (try simp only [List.length_cons, List.length_nil, Nat.reduceAdd, Array.replicate_succ, Array.replicate_zero, List.push_toArray, List.nil_append, List.cons_append])
  refine r0 0 ?_; simp only [pz, pn, sz, sc]
  refine r0 2 ?_; simp only [pz, pn, sz, sc]
  refine r1 1 ?_; (first | (refine kg gf88 hst (fun w hst => hof b6 w (hst.own _ _ (by repeat (first | exact List.Mem.head _ | refine List.Mem.tail _ ?_)))) rfl rfl rfl rfl ?_; clear hst; intro w hst) | (refine kg gf98 hst (fun w hst => hlen b6 w (hst.own _ _ (by repeat (first | exact List.Mem.head _ | refine List.Mem.tail _ ?_)))) rfl rfl rfl rfl ?_; clear hst; intro w hst) | (refine kp ?_)); (try simp only [pz, pn, sz, sc]); refine re ?_
  refine r1 3 ?_; (first | (refine kg gf88 hst (fun w hst => hof b6 w (hst.own _ _ (by repeat (first | exact List.Mem.head _ | refine List.Mem.tail _ ?_)))) rfl rfl rfl rfl ?_; clear hst; intro w hst) | (refine kg gf98 hst (fun w hst => hlen b6 w (hst.own _ _ (by repeat (first | exact List.Mem.head _ | refine List.Mem.tail _ ?_)))) rfl rfl rfl rfl ?_; clear hst; intro w hst) | (refine kp ?_)); (try simp only [pz, pn, sz, sc]); refine re ?_
  refine r0 4 ?_; simp only [pz, pn, sz, sc]
  refine r1 5 ?_; (first | (refine kt hst ta24 rfl rfl ?_; clear hst; intro w hst) | (refine ktm hst ta24 rfl rfl ?_; clear hst; intro w hst)); (try simp only [pz, pn, sz, sc]); refine re ?_
  refine r0 6 ?_; simp only [pz, pn, sz, sc]
  refine rd_ ?_
  go_wp2_with ((first | (refine kb 2 hst rfl rfl ?_; clear hst; intro b2 w hb2 hst) | (refine kb 3 hst rfl rfl ?_; clear hst; intro b3 w hb3 hst) | (refine ka 4 hst tz24 rfl rfl ?_; clear hst; intro b4 w hb4 hst) | (refine kl hst ta24 rfl ?_) | (refine klm hst ta24 rfl ?_) | (refine ka 6 hst tz212 rfl rfl ?_; clear hst; intro b6 w hb6 hst) | (refine kt hst ta212 rfl rfl ?_; clear hst; intro w hst) | (refine ktm hst ta212 rfl rfl ?_; clear hst; intro w hst) | (refine kt hst ta24 rfl rfl ?_; clear hst; intro w hst) | (refine ktm hst ta24 rfl rfl ?_; clear hst; intro w hst)); try simp only [pz, pn, sz, sc])
  refine bp_ct rfl rfl (la hst ta24) (by rfl) ⟨?_, hst.keeps⟩
  rw [hres'.out]; rfl

end Go.Proofs.YtggchelniblipaaGreatDoor.Rd

namespace Go.Proofs.YtggchelniblipaaGreatDoor.Rd
open Go Go.RowKit
set_option linter.unusedVariables false
set_option linter.unusedSimpArgs false
set_option maxRecDepth 100000

theorem two_pow_limb (n : Nat) : 2 ^ n = 2 ^ (n % 64) * B ^ (n / 64) := by
  have : B ^ (n / 64) = 2 ^ (64 * (n / 64)) := by unfold B; rw [← Nat.pow_mul]
  rw [this, ← Nat.pow_add]
  congr 1
  omega

/-- What wide.Power answers. -/
def pow2 (n : Int) : Nat := if 0 ≤ n ∧ n < 512 then 2 ^ n.toNat else 0

set_option maxHeartbeats 1000000 in
theorem wide_Power (n : Int) : Gives Tryz.prog 97 #[.int .i64 n] (W (pow2 n)) := by
  intro w0
  have hst := St.start [] w0
  by_cases h0 : 0 ≤ n
  · by_cases h1 : n < 512
    · have hq : 0 ≤ n / 64 ∧ n / 64 < 8 := by omega
      have hr : 0 ≤ n % 64 ∧ n % 64 < 64 := by omega
      obtain ⟨hq1, hq2⟩ := hq
      obtain ⟨hr1, hr2⟩ := hr
      have hset : (wc 8 0).setIfInBounds (n / 64).toNat (.int .u64 (IntKind.u64.wrap (2 ^ (n % 64).toNat))) = wc 8 (pow2 n) := by
        obtain ⟨m, rfl⟩ := Int.eq_ofNat_of_zero_le h0
        have e1 : ((m : Int) / 64).toNat = m / 64 := by omega
        have e2 : ((m : Int) % 64).toNat = m % 64 := by omega
        have e3 : 2 ^ (m % 64) < B := Nat.pow_lt_pow_right (by omega) (by omega)
        have e4 : IntKind.u64.wrap (2 ^ (m % 64)) = ((2 ^ (m % 64) : Nat) : Int) := by
          rw [cast_pow2, u64_wrap, Nat.mod_eq_of_lt e3]
        rw [e1, e2, e4, wc_set 8 0 _ _ (Bp_pos _) e3, Nat.zero_add, ← two_pow_limb]
        have : pow2 (m : Int) = 2 ^ m := by simp [pow2]; omega
        rw [this]
      have hset' := Lib.hid hset
      clear hset
      go_enter Tryz.func97, Tryz.ntmps97
      go_wp2_with ((first | (refine ka 2 hst tz24 rfl rfl ?_; clear hst; intro b2 w hb2 hst) | (refine ka 3 hst tz24 rfl rfl ?_; clear hst; intro b3 w hb3 hst) | (refine ks hst tc22 rfl rfl ?_; clear hst; intro w hst; (try rw [hset'.out] at hst)) | (refine kl hst ta24 rfl ?_) | (refine klm hst ta24 rfl ?_) | (refine kt hst ta24 rfl rfl ?_; clear hst; intro w hst; (try rw [hset'.out] at hst)) | (refine ktm hst ta24 rfl rfl ?_; clear hst; intro w hst; (try rw [hset'.out] at hst))); try simp only [pz, pn, sz, sc])
      refine bp_c rfl rfl (la hst ta24) ⟨?_, hst.keeps⟩
      rfl
    · go_enter Tryz.func97, Tryz.ntmps97
      go_wp2_with ((first | (refine ka 2 hst tz24 rfl rfl ?_; clear hst; intro b2 w hb2 hst) | (refine ka 3 hst tz24 rfl rfl ?_; clear hst; intro b3 w hb3 hst) | (refine ks hst tc22 rfl rfl ?_; clear hst; intro w hst) | (refine kl hst ta24 rfl ?_) | (refine klm hst ta24 rfl ?_) | (refine kt hst ta24 rfl rfl ?_; clear hst; intro w hst) | (refine ktm hst ta24 rfl rfl ?_; clear hst; intro w hst)); try simp only [pz, pn, sz, sc])
      refine bp_c rfl rfl (la hst ta24) ⟨?_, hst.keeps⟩
      have e : pow2 n = 0 := by unfold pow2; rw [if_neg (by omega)]
      rw [e]; rfl
  · go_enter Tryz.func97, Tryz.ntmps97
    go_wp2_with ((first | (refine ka 2 hst tz24 rfl rfl ?_; clear hst; intro b2 w hb2 hst) | (refine ka 3 hst tz24 rfl rfl ?_; clear hst; intro b3 w hb3 hst) | (refine ks hst tc22 rfl rfl ?_; clear hst; intro w hst) | (refine kl hst ta24 rfl ?_) | (refine klm hst ta24 rfl ?_) | (refine kt hst ta24 rfl rfl ?_; clear hst; intro w hst) | (refine ktm hst ta24 rfl rfl ?_; clear hst; intro w hst)); try simp only [pz, pn, sz, sc])
    refine bp_c rfl rfl (la hst ta24) ⟨?_, hst.keeps⟩
    have e : pow2 n = 0 := by unfold pow2; rw [if_neg (by omega)]
    rw [e]; rfl

end Go.Proofs.YtggchelniblipaaGreatDoor.Rd
