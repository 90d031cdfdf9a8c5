/- Numbers as rows of limbs: the limb at a place, the row of so many limbs, the value of type api.Wide. -/
import Derived.Test.YtojjmcghcgidlaaDoorRdA
import Derived.Lib.BitFns
import Derived.Laws.MathBits
namespace Go.Proofs.YtojjmcghcgidlaaDoor.Rd
open Go Go.RowKit
set_option linter.unusedVariables false
set_option linter.unusedSimpArgs false

/-- 2^64. -/
def B : Nat := 2 ^ 64
/-- 2^512. -/
def M : Nat := B ^ 8
theorem B_val : B = 18446744073709551616 := rfl
theorem B_pos : 0 < B := by decide
theorem M_eq : M = B ^ 8 := rfl
theorem Bp_pos (k : Nat) : 0 < B ^ k := Nat.pow_pos B_pos

/-- The limb at a place. -/
def lb (n i : Nat) : Nat := n / B ^ i % B
theorem lb_lt (n i : Nat) : lb n i < B := Nat.mod_lt _ B_pos
theorem lb_zero (n : Nat) : lb n 0 = n % B := by simp [lb]

/-- The cells of a number of k limbs. -/
def wc (k n : Nat) : Array Value := (Array.range k).map fun i => .int .u64 (lb n i : Nat)
@[simp] theorem wc_size (k n : Nat) : (wc k n).size = k := by simp [wc]
theorem wc_get (k n i : Nat) (h : i < k) : (wc k n)[i]? = some (.int .u64 (lb n i : Nat)) := by simp [wc, h]
/-- The value of a number of 8 limbs. -/
def W (n : Nat) : Value := .agg (wc 8 n)
theorem W_cells (n : Nat) : (W n).cells = wc 8 n := rfl
theorem wc_one (k n : Nat) : (wc k n).all (·.oneCell') = true := by
  rw [Array.all_eq_true]
  intro i hi
  have hi' : i < k := by simpa using hi
  have h := wc_get k n i hi'
  rw [Array.getElem?_eq_getElem hi] at h
  rw [Option.some.inj h]
  rfl

theorem lb_split (n k : Nat) : n % B ^ (k + 1) = n % B ^ k + lb n k * B ^ k := by
  unfold lb
  rw [Nat.pow_succ, Nat.mod_mul, Nat.mul_comm (n / B ^ k % B)]

/-- A number of so many limbs, and what is put at a place where there was nothing. -/
theorem lb_add_at (n d k i : Nat) (hn : n < B ^ k) (hd : d < B) : lb (n + d * B ^ k) i = if i = k then d else lb n i := by
  unfold lb
  rcases Nat.lt_trichotomy i k with h | h | h
  · rw [if_neg (by omega)]
    have e : B ^ k = B ^ i * (B * B ^ (k - i - 1)) := by
      rw [← Nat.pow_succ', ← Nat.pow_add]; congr 1; omega
    rw [e, show n + d * (B ^ i * (B * B ^ (k - i - 1))) = n + B ^ i * (B * (d * B ^ (k - i - 1))) by
      rw [Nat.mul_left_comm, Nat.mul_left_comm d], Nat.add_mul_div_left _ _ (Bp_pos i), Nat.add_mul_mod_self_left]
  · subst h
    rw [if_pos rfl, Nat.add_mul_div_right _ _ (Bp_pos i), Nat.div_eq_of_lt hn, Nat.zero_add, Nat.mod_eq_of_lt hd]
  · rw [if_neg (by omega)]
    have h1 : n + d * B ^ k < B ^ (k + 1) := by
      rw [Nat.pow_succ, Nat.mul_comm (B ^ k)]
      calc n + d * B ^ k < B ^ k + d * B ^ k := by omega
        _ = (d + 1) * B ^ k := by rw [Nat.add_mul, Nat.one_mul, Nat.add_comm]
        _ ≤ B * B ^ k := Nat.mul_le_mul_right _ hd
    have h2 : B ^ (k + 1) ≤ B ^ i := Nat.pow_le_pow_right B_pos h
    have h3 : B ^ k ≤ B ^ i := Nat.pow_le_pow_right B_pos (by omega)
    rw [Nat.div_eq_of_lt (by omega), Nat.div_eq_of_lt (by omega)]

theorem wc_ext {k n m : Nat} (h : ∀ i, i < k → lb n i = lb m i) : wc k n = wc k m := by
  unfold wc
  apply Array.ext
  · simp
  · intro i h1 h2
    simp only [Array.size_map, Array.size_range] at h1
    simp [h i h1]

theorem wc_set (k n d j : Nat) (hn : n < B ^ j) (hd : d < B) : (wc k n).setIfInBounds j (.int .u64 (d : Nat)) = wc k (n + d * B ^ j) := by
  apply Array.ext_getElem?
  intro i
  rw [Array.getElem?_setIfInBounds]
  by_cases hk : i < k
  · rw [wc_get k _ i hk, wc_get k _ i hk, lb_add_at n d j i hn hd, wc_size]
    by_cases h : j = i
    · subst h; simp [hk]
    · rw [if_neg h, if_neg (by omega)]
  · have e1 : (wc k n)[i]? = none := Array.getElem?_eq_none (by simp; omega)
    have e2 : (wc k (n + d * B ^ j))[i]? = none := Array.getElem?_eq_none (by simp; omega)
    rw [e1, e2, wc_size]
    split
    · rename_i h; subst h; rw [if_neg hk]
    · rfl

/-- The limbs of a number tell it. -/
theorem lb_inj {k : Nat} : ∀ {n m : Nat}, (∀ i, i < k → lb n i = lb m i) → n % B ^ k = m % B ^ k := by
  induction k with
  | zero => intro n m _; simp [Nat.mod_one]
  | succ k ih =>
    intro n m h
    rw [lb_split, lb_split, ih (fun i hi => h i (by omega)), h k (by omega)]

theorem wc_inj {k n m : Nat} (hn : n < B ^ k) (hm : m < B ^ k) (h : wc k n = wc k m) : n = m := by
  have : ∀ i, i < k → lb n i = lb m i := fun i hi => by
    have h1 := wc_get k n i hi
    rw [h, wc_get k m i hi] at h1
    simp only [Option.some.injEq, Value.int.injEq, true_and] at h1
    omega
  have := lb_inj this
  rwa [Nat.mod_eq_of_lt hn, Nat.mod_eq_of_lt hm] at this

theorem lb_lt_of {n i k : Nat} (h : n < B ^ k) (hi : k ≤ i) : lb n i = 0 := by
  unfold lb
  rw [Nat.div_eq_of_lt (Nat.lt_of_lt_of_le h (Nat.pow_le_pow_right B_pos hi))]
  rfl

theorem W_zero : W 0 = .agg #[.int .u64 0, .int .u64 0, .int .u64 0, .int .u64 0, .int .u64 0, .int .u64 0, .int .u64 0, .int .u64 0] := by kernel_rfl

/-- How many limbs, from place o on, of at most so many, till only noughts follow. -/
def tl (n o : Nat) : Nat → Nat
  | 0 => 0
  | k + 1 => if lb n (o + k) = 0 then tl n o k else k + 1
theorem tl_le (n o : Nat) : ∀ k, tl n o k ≤ k
  | 0 => by simp [tl]
  | k + 1 => by unfold tl; split; (have := tl_le n o k; omega); omega

theorem lb_part (n o len i : Nat) (h : i < len) : lb (n / B ^ o % B ^ len) i = lb n (o + i) := by
  unfold lb
  have e : B ^ len = B ^ i * B ^ (len - i) := by rw [← Nat.pow_add]; congr 1; omega
  rw [e, Nat.mod_mul_right_div_self, Nat.div_div_eq_div_mul, ← Nat.pow_add, Nat.mod_mod_of_dvd]
  exact ⟨B ^ (len - i - 1), by rw [← Nat.pow_succ']; congr 1; omega⟩

/-- How many binary digits. -/
abbrev bl (n : Nat) : Nat := Go.bitLen n
theorem bl_zero : bl 0 = 0 := rfl
theorem bl_spec (n : Nat) : n < 2 ^ bl n ∧ (n ≠ 0 → 2 ^ (bl n - 1) ≤ n) := bitLen_spec n
theorem bl_pos {n : Nat} (h : n ≠ 0) : 0 < bl n := by unfold bl bitLen; rw [if_neg h]; omega
theorem bl_le {n k : Nat} : bl n ≤ k ↔ n < 2 ^ k := by
  constructor
  · intro h
    exact Nat.lt_of_lt_of_le (bl_spec n).1 (Nat.pow_le_pow_right (by omega) h)
  · intro h
    by_cases h0 : n = 0
    · subst h0; simp [bl, bitLen]
    · have h1 := (bl_spec n).2 h0
      have h2 := bl_pos h0
      have : 2 ^ (bl n - 1) < 2 ^ k := by omega
      have := (Nat.pow_lt_pow_iff_right (a := 2) (by omega)).1 this
      omega
theorem bl_lt (n k : Nat) (h : n < 2 ^ k) : bl n ≤ k := bl_le.2 h
theorem bl_shift (n b : Nat) (h : n / 2 ^ b ≠ 0) : bl n = b + bl (n / 2 ^ b) := bitLen_shift n b h

theorem lib_aux : ∀ (f x : Nat), x < 2 ^ f → Lib.bitLenAux f x = bl x
  | 0, x, h => by
    have : x = 0 := by simpa using h
    subst this; rfl
  | f + 1, x, h => by
    simp only [Lib.bitLenAux]
    by_cases h0 : x = 0
    · subst h0; rfl
    · rw [if_neg h0, lib_aux f (x / 2) (by rw [Nat.pow_succ] at h; omega)]
      by_cases h1 : x / 2 = 0
      · have : x = 1 := by omega
        subst this; rfl
      · have := bl_shift x 1 (by simpa using h1)
        simpa using this.symm
theorem lib_bitLen (x : Nat) (h : x < B) : Lib.bitLen x = bl x := lib_aux 64 x h

/-- What tl tells of the number of digits. -/
theorem bl_tl (n o : Nat) : ∀ len, bl (n / B ^ o % B ^ len) = if tl n o len = 0 then 0 else 64 * (tl n o len - 1) + bl (lb n (o + (tl n o len - 1)))
  | 0 => by simp [tl, Nat.mod_one, bl_zero]
  | len + 1 => by
    have e := lb_split (n / B ^ o) len
    have e2 : lb (n / B ^ o) len = lb n (o + len) := by unfold lb; rw [Nat.div_div_eq_div_mul, ← Nat.pow_add]
    rw [e2] at e
    unfold tl
    by_cases h : lb n (o + len) = 0
    · rw [if_pos h, e, h, Nat.zero_mul, Nat.add_zero]
      exact bl_tl n o len
    · rw [if_neg h, if_neg (by omega), Nat.add_sub_cancel]
      have hlt : n / B ^ o % B ^ len < B ^ len := Nat.mod_lt _ (Bp_pos len)
      have hp : B ^ len = 2 ^ (64 * len) := by unfold B; rw [← Nat.pow_mul]
      have hdiv : n / B ^ o % B ^ (len + 1) / 2 ^ (64 * len) = lb n (o + len) := by
        rw [e, ← hp, Nat.add_mul_div_right _ _ (Bp_pos len), Nat.div_eq_of_lt hlt, Nat.zero_add]
      rw [bl_shift _ (64 * len) (by rw [hdiv]; exact h), hdiv]

theorem wc_1 (x : Nat) (hx : x < B) : #[Value.int .u64 (x : Nat)] = wc 1 x := by
  have := wc_get 1 x 0 (by omega)
  rw [lb_zero, Nat.mod_eq_of_lt hx] at this
  apply Array.ext_getElem?
  intro i
  by_cases h : i = 0
  · subst h; rw [this]; rfl
  · rw [Array.getElem?_eq_none (by simp; omega), Array.getElem?_eq_none (by simp; omega)]
theorem wc_2 (x y : Nat) (hx : x < B) (hy : y < B) : #[Value.int .u64 (x : Nat), Value.int .u64 (y : Nat)] = wc 2 (x + y * B) := by
  have h := lb_add_at x y 1 
  rw [Nat.pow_one] at h
  have h0 := wc_get 2 (x + y * B) 0 (by omega)
  have h1 := wc_get 2 (x + y * B) 1 (by omega)
  rw [h 0 hx hy, if_neg (by omega), lb_zero, Nat.mod_eq_of_lt hx] at h0
  rw [h 1 hx hy, if_pos rfl] at h1
  apply Array.ext_getElem?
  intro i
  by_cases e : i = 0
  · subst e; rw [h0]; rfl
  · by_cases e' : i = 1
    · subst e'; rw [h1]; rfl
    · rw [Array.getElem?_eq_none (by simp; omega), Array.getElem?_eq_none (by simp; omega)]

theorem cut_len (k n so m : Nat) (hk : so + m ≤ k) : (((wc k n).toList.drop so).take m).length = m := by simp; omega
theorem cut_get (k n so m : Nat) (j : Nat) (v : Value) (h : (((wc k n).toList.drop so).take m)[j]? = some v) : (wc k n)[so + j]? = some v := by
  rw [List.getElem?_take] at h
  split at h
  · rw [List.getElem?_drop, Array.getElem?_toList] at h; exact h
  · cases h
theorem cut_one (k n so m : Nat) : ∀ v ∈ ((wc k n).toList.drop so).take m, v.oneCell' = true := by
  intro v hv
  have h := wc_one k n
  rw [Array.all_eq_true_iff_forall_mem] at h
  exact h v (by simpa using List.mem_of_mem_drop (List.mem_of_mem_take hv))
/-- What a copy of limbs over a row of noughts makes. -/
theorem wc_copy (k n so m : Nat) (hm : m ≤ 8) (hk : so + m ≤ k) :
    wc 8 (n / B ^ so % B ^ m) = ((wc 8 0).toList.take 0 ++ ((wc k n).toList.drop so).take m ++ (wc 8 0).toList.drop (0 + (((wc k n).toList.drop so).take m).length)).toArray := by
  have hl : (((wc k n).toList.drop so).take m).length = m := by simp; omega
  apply Array.ext_getElem?
  intro i
  rw [hl]
  simp only [List.take_zero, List.nil_append, Nat.zero_add, List.getElem?_toArray]
  by_cases h : i < m
  · rw [List.getElem?_append_left (by omega), List.getElem?_take_of_lt h, List.getElem?_drop, wc_get 8 _ i (by omega), Array.getElem?_toList, wc_get k n (so + i) (by omega), lb_part n so m i h]
  · rw [List.getElem?_append_right (by omega), hl, List.getElem?_drop, Array.getElem?_toList, show m + (i - m) = i by omega]
    by_cases h8 : i < 8
    · rw [wc_get 8 _ i h8, wc_get 8 _ i h8, lb_lt_of (Nat.mod_lt _ (Bp_pos m)) (by omega), lb_lt_of (k := 0) (by simp) (by omega)]
    · rw [Array.getElem?_eq_none (by simp; omega), Array.getElem?_eq_none (by simp; omega)]

theorem u64_wrap (x : Nat) : IntKind.u64.wrap (x : Int) = ((x % B : Nat) : Int) := by
  have : IntKind.u64.wrap (x : Int) = (x : Int) % (2 ^ 64 : Int) := rfl
  rw [this, B_val]
  omega
theorem cast_pow2 (k : Nat) : (2 : Int) ^ k = ((2 ^ k : Nat) : Int) := by simp

theorem cast_bne0 (n : Nat) : ((n : Int) != 0) = decide (n ≠ 0) := by
  by_cases h : n = 0 <;> simp [h]
theorem cast_beq0 (n : Nat) : ((n : Int) == 0) = decide (n = 0) := by
  by_cases h : n = 0 <;> simp [h]
theorem cast_bne (n m : Nat) : ((n : Int) != (m : Int)) = decide (n ≠ m) := by
  rw [Bool.eq_iff_iff]; simp [Int.natCast_inj]
theorem cast_beq (n m : Nat) : ((n : Int) == (m : Int)) = decide (n = m) := by
  rw [Bool.eq_iff_iff]; simp [Int.natCast_inj]

end Go.Proofs.YtojjmcghcgidlaaDoor.Rd
