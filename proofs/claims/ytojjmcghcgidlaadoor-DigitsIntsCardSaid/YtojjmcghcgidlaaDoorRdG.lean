/- What prod.put does, as numbers. -/
import Derived.Test.YtojjmcghcgidlaaDoorRdE
namespace Go.Proofs.YtojjmcghcgidlaaDoor.Rd
open Go Go.RowKit
set_option linter.unusedVariables false
set_option linter.unusedSimpArgs false
set_option maxRecDepth 100000

/-- A number with another limb at a place. -/
def setL (m j d : Nat) : Nat := m % B ^ j + d * B ^ j + m / B ^ (j + 1) * B ^ (j + 1)

theorem setL_eq (m j d : Nat) : setL m j d + lb m j * B ^ j = m + d * B ^ j := by
  have h1 := Nat.div_add_mod m (B ^ (j + 1))
  have h2 := lb_split m j
  unfold setL
  rw [Nat.mul_comm] at h1
  omega

theorem lb_setL (m j d i : Nat) (hd : d < B) : lb (setL m j d) i = if i = j then d else lb m i := by
  have hlo : m % B ^ j < B ^ j := Nat.mod_lt _ (Bp_pos j)
  have hlow : m % B ^ j + d * B ^ j < B ^ (j + 1) := by
    rw [Nat.pow_succ, Nat.mul_comm (B ^ j)]
    have : (d + 1) * B ^ j ≤ B * B ^ j := Nat.mul_le_mul_right _ hd
    rw [Nat.add_mul, Nat.one_mul] at this
    omega
  unfold setL
  rcases Nat.lt_or_ge j i with h | h
  · rw [if_neg (by omega)]
    unfold lb
    have e : B ^ i = B ^ (j + 1) * B ^ (i - (j + 1)) := by rw [← Nat.pow_add]; congr 1; omega
    rw [e, ← Nat.div_div_eq_div_mul, ← Nat.div_div_eq_div_mul, Nat.add_mul_div_right _ _ (Bp_pos (j + 1)), Nat.div_eq_of_lt hlow, Nat.zero_add]
  · have e : m / B ^ (j + 1) * B ^ (j + 1) = B ^ i * (B * (m / B ^ (j + 1) * B ^ (j - i))) := by
      have : B ^ (j + 1) = B ^ i * (B * B ^ (j - i)) := by rw [← Nat.pow_succ', ← Nat.pow_add]; congr 1; omega
      rw [Nat.mul_comm (m / B ^ (j + 1)) (B ^ (j - i)), ← Nat.mul_assoc B, ← Nat.mul_assoc (B ^ i), ← this, Nat.mul_comm]
    have h2 : lb (m % B ^ j + d * B ^ j + m / B ^ (j + 1) * B ^ (j + 1)) i = lb (m % B ^ j + d * B ^ j) i := by
      unfold lb
      rw [e, Nat.add_mul_div_left _ _ (Bp_pos i), Nat.add_mul_mod_self_left]
    rw [h2, lb_add_at _ _ _ _ hlo hd]
    by_cases hij : i = j
    · rw [if_pos hij, if_pos hij]
    · rw [if_neg hij, if_neg hij]
      have := lb_part m 0 j i (by omega)
      simpa using this

theorem wc_setL (k m j d : Nat) (hd : d < B) : (wc k m).setIfInBounds j (.int .u64 (d : Nat)) = wc k (setL m j d) := by
  apply Array.ext_getElem?
  intro i
  rw [Array.getElem?_setIfInBounds]
  by_cases hk : i < k
  · rw [wc_get k _ i hk, wc_get k _ i hk, lb_setL m j d i hd, wc_size]
    by_cases h : j = i
    · subst h; simp [hk]
    · rw [if_neg h, if_neg (by omega)]
  · have e1 : (wc k m)[i]? = none := Array.getElem?_eq_none (by simp; omega)
    have e2 : (wc k (setL m j d))[i]? = none := Array.getElem?_eq_none (by simp; omega)
    rw [e1, e2, wc_size]
    split
    · rename_i h; subst h; rw [if_neg hk]
    · rfl

theorem setL_lt (m j d k : Nat) (hm : m < B ^ k) (hd : d < B) (hj : j < k) : setL m j d < B ^ k := by
  have h : setL m j d % B ^ k = setL m j d := by
    have : setL m j d / B ^ k = 0 := by
      have e : B ^ k = B ^ (j + 1) * B ^ (k - (j + 1)) := by rw [← Nat.pow_add]; congr 1; omega
      have hlow : m % B ^ j + d * B ^ j < B ^ (j + 1) := by
        have hlo : m % B ^ j < B ^ j := Nat.mod_lt _ (Bp_pos j)
        rw [Nat.pow_succ, Nat.mul_comm (B ^ j)]
        have : (d + 1) * B ^ j ≤ B * B ^ j := Nat.mul_le_mul_right _ hd
        rw [Nat.add_mul, Nat.one_mul] at this
        omega
      unfold setL
      rw [e, ← Nat.div_div_eq_div_mul, Nat.add_mul_div_right _ _ (Bp_pos (j + 1)), Nat.div_eq_of_lt hlow, Nat.zero_add, Nat.div_div_eq_div_mul, ← e]
      exact Nat.div_eq_of_lt hm
    rw [Nat.mod_eq_of_lt]
    exact (Nat.div_eq_zero_iff_lt (Bp_pos k)).1 this
  rw [← h]
  exact Nat.mod_lt _ (Bp_pos k)

/-- A step of a carry. -/
theorem carry_step (m j x c : Nat) : setL m j ((lb m j + x + c) % B) + (lb m j + x + c) / B * B ^ (j + 1) = m + (x + c) * B ^ j := by
  have h := setL_eq m j ((lb m j + x + c) % B)
  have e := Nat.div_add_mod (lb m j + x + c) B
  generalize (lb m j + x + c) / B = q at *
  generalize (lb m j + x + c) % B = r at *
  have e2 : (B * q + r) * B ^ j = (lb m j + x + c) * B ^ j := by rw [e]
  rw [Nat.add_mul, Nat.add_mul, Nat.add_mul, Nat.mul_assoc] at e2
  rw [Nat.add_mul, Nat.pow_succ', ← Nat.mul_assoc, Nat.mul_comm q B, Nat.mul_assoc]
  omega

set_option maxHeartbeats 4000000 in
theorem prod_put (b n i x : Nat) (E : TypeId) (hn : n < B ^ 17) (hx : x < B) (hi : i ≤ 16) (w0 : World) (hb : w0.heap[b]? = some (.cells (wc 17 n) E (0, 0))) :
    Calls Tryd.prog 86 #[.pointer (some ⟨b, 0, none⟩), .int .i64 i, .int .u64 x] w0 fun e w' => e = .returned (.tuple #[]) ∧ Keeps [b] w0 w' ∧ w'.heap[b]? = some (.cells (wc 17 ((n + x * B ^ i) % B ^ 17)) E (0, 0)) := by
  have hst := (St.start [b] w0).add hb (by simp)
  clear hb
  have hadd := limb_Add (lb n i) x 0 (lb_lt _ _) hx (by omega)
  have hi0 : (0 : Int) ≤ (i : Int) := by omega
  have hi17 : (i : Int) < 17 := by omega
  have hcs := carry_step n i x 0
  have hc1 := (add_lt (lb n i) x 0 (lb_lt _ _) hx (by omega)).2
  have hs1 := (add_lt (lb n i) x 0 (lb_lt _ _) hx (by omega)).1
  have hlt1 := setL_lt n i _ 17 hn hs1 (by omega)
  have hset := wc_setL 17 n i _ hs1
  generalize hq : (lb n i + x + 0) / B = q at *
  generalize hr : (lb n i + x + 0) % B = r at *
  clear hq hr
  have hset' := Lib.hid hset
  clear hset
  go_enter Tryd.func86, Tryd.ntmps86
  go_wp2_with ((first | (refine kc hst tc22 rfl ?_) | (refine ks hst tc22 rfl rfl ?_; clear hst; intro w hst)); try simp only [pz, pn, sz, sc])
  refine wp_region_T 14  hst (by kernel_rfl) ?_; clear hst; intro w hst; (try dsimp only [List.length_cons, List.length_nil]); (try simp only [List.length_cons, List.length_nil, Nat.reduceAdd, Array.replicate_succ, Array.replicate_zero, List.push_toArray, List.nil_append, List.cons_append])
  refine r0 0 ?_; simp only [pz, pn, sz, sc]
  refine r0 1 ?_; simp only [pz, pn, sz, sc]
  refine r0 2 ?_; simp only [pz, pn, sz, sc]
  refine r0 3 ?_; simp only [pz, pn, sz, sc]
  refine r0 4 ?_; simp only [pz, pn, sz, sc]
  refine r0 5 ?_; simp only [pz, pn, sz, sc]
  refine r0 7 ?_; simp only [pz, pn, sz, sc]
  refine r0 12 ?_; simp only [pz, pn, sz, sc]
  refine rl 6 rfl ?_ (ylC tc22); simp only [pz, pn, sz, sc]
  refine r1 8 ?_; (first | (refine kf gf56 hst (hadd) rfl rfl rfl rfl ?_; clear hst; intro w hst) | (refine kp ?_)); (try simp only [pz, pn, sz, sc]); refine re ?_
  refine r0 9 ?_; simp only [pz, pn, sz, sc]
  refine r0 10 ?_; simp only [pz, pn, sz, sc]
  refine r0 11 ?_; simp only [pz, pn, sz, sc]
  refine r0 13 ?_; simp only [pz, pn, sz, sc]
  refine r1 14 ?_; (refine ks hst tc22 rfl rfl ?_; clear hst; intro w hst; (try rw [hset'.out] at hst)); (try simp only [pz, pn, sz, sc]); refine re ?_
  refine r0 15 ?_; simp only [pz, pn, sz, sc]
  refine rd_ ?_
  go_wp2_with ((first | (refine kc hst tc22 rfl ?_) | (refine ks hst tc22 rfl rfl ?_; clear hst; intro w hst)); try simp only [pz, pn, sz, sc])
  go_loopw [1, 6] (fun j c wr => ∃ (k m u : Nat), k ≤ 17 ∧ u ≤ 1 ∧ m < B ^ 17 ∧ m + u * B ^ k = n + x * B ^ i ∧ j = .int .i64 k ∧ c = .int .u64 u ∧ St w0 [b] [(b, .cells (wc 17 m) E (0, 0))] wr) (fun j _ _ => 17 - (intOf j).toNat)
  case atStart => exact ⟨i + 1, _, q, by omega, hc1, hlt1, by rw [hcs, Nat.add_zero], by go_num, rfl, hst⟩
  case round =>
    clear hst hset' hadd hcs hc1 hs1 hlt1 hi0 hi17
    obtain ⟨k, m, u, hk, hu, hm, he, rfl, rfl, hst⟩ := hrel
    by_cases h0 : u = 0
    · subst h0
      have hm2 : m = (n + x * B ^ i) % B ^ 17 := by
        rw [Nat.zero_mul, Nat.add_zero] at he
        rw [← he, Nat.mod_eq_of_lt hm]
      subst hm2
      go_wp2_with ((first | (refine kc hst tc22 rfl ?_) | (refine ks hst tc22 rfl rfl ?_; clear hst; intro w hst)); try simp only [pz, pn, sz, sc])
      exact bp_0 rfl rfl ⟨rfl, hst.keeps, hst.own _ _ (by simp)⟩
    · have hu1 : u = 1 := by omega
      subst hu1
      by_cases h1 : k ≤ 16
      · have hk0 : (0 : Int) ≤ (k : Int) := by omega
        have hk17 : (k : Int) < 17 := by omega
        have hadd := limb_Add (lb m k) 0 1 (lb_lt _ _) B_pos (by omega)
        have hcs := carry_step m k 0 1
        have hc1 := (add_lt (lb m k) 0 1 (lb_lt _ _) B_pos (by omega)).2
        have hs1 := (add_lt (lb m k) 0 1 (lb_lt _ _) B_pos (by omega)).1
        have hlt1 := setL_lt m k _ 17 hm hs1 (by omega)
        have hset := wc_setL 17 m k _ hs1
        generalize hq : (lb m k + 0 + 1) / B = q at *
        generalize hr : (lb m k + 0 + 1) % B = r at *
        clear hq hr
        have hset' := Lib.hid hset
        have he' := Lib.hid he
        have hcs' := Lib.hid hcs
        clear hset he hcs
        go_wp2_with ((first | (refine kc hst tc22 rfl ?_) | (refine ks hst tc22 rfl rfl ?_; clear hst; intro w hst)); try simp only [pz, pn, sz, sc])
        refine wp_region_T 14  hst (by kernel_rfl) ?_; clear hst; intro w hst; (try dsimp only [List.length_cons, List.length_nil]); (try simp only [List.length_cons, List.length_nil, Nat.reduceAdd, Array.replicate_succ, Array.replicate_zero, List.push_toArray, List.nil_append, List.cons_append])
        refine r0 0 ?_; simp only [pz, pn, sz, sc]
        refine r0 1 ?_; simp only [pz, pn, sz, sc]
        refine r0 2 ?_; simp only [pz, pn, sz, sc]
        refine r0 3 ?_; simp only [pz, pn, sz, sc]
        refine r0 4 ?_; simp only [pz, pn, sz, sc]
        refine r0 5 ?_; simp only [pz, pn, sz, sc]
        refine r0 7 ?_; simp only [pz, pn, sz, sc]
        refine r0 12 ?_; simp only [pz, pn, sz, sc]
        refine rl 6 rfl ?_ (ylC tc22); simp only [pz, pn, sz, sc]
        refine r1 8 ?_; (first | (refine kf gf56 hst (hadd) rfl rfl rfl rfl ?_; clear hst; intro w hst) | (refine kp ?_)); (try simp only [pz, pn, sz, sc]); refine re ?_
        refine r0 9 ?_; simp only [pz, pn, sz, sc]
        refine r0 10 ?_; simp only [pz, pn, sz, sc]
        refine r0 11 ?_; simp only [pz, pn, sz, sc]
        refine r0 13 ?_; simp only [pz, pn, sz, sc]
        refine r1 14 ?_; (refine ks hst tc22 rfl rfl ?_; clear hst; intro w hst; (try rw [hset'.out] at hst)); (try simp only [pz, pn, sz, sc]); refine re ?_
        refine r0 15 ?_; simp only [pz, pn, sz, sc]
        refine rd_ ?_
        go_wp2_with ((first | (refine kc hst tc22 rfl ?_) | (refine ks hst tc22 rfl rfl ?_; clear hst; intro w hst)); try simp only [pz, pn, sz, sc])
        go_roundw
        case rel => exact ⟨k + 1, _, q, by omega, hc1, hlt1, by rw [hcs'.out, ← he'.out], by go_num, rfl, hst⟩
        case measure => simp [intOf]; omega
      · have h17 : k = 17 := by omega
        subst h17
        have hm2 : m = (n + x * B ^ i) % B ^ 17 := by
          rw [← he, Nat.one_mul, Nat.add_mod_right, Nat.mod_eq_of_lt hm]
        subst hm2
        clear he
        go_wp2_with ((first | (refine kc hst tc22 rfl ?_) | (refine ks hst tc22 rfl rfl ?_; clear hst; intro w hst)); try simp only [pz, pn, sz, sc])
        exact bp_0 rfl rfl ⟨rfl, hst.keeps, hst.own _ _ (by simp)⟩

end Go.Proofs.YtojjmcghcgidlaaDoor.Rd
