/- The facts of this translation's types and functions that the walks use. -/
import Derived.Test.YtefpoconpeggpaaGreatDoorL01
import Derived.Lib.BitFns
import Derived.Laws.MathBits
import Derived.Test.YtefpoconpeggpaaGreatDoorProg
namespace Go.Proofs.YtefpoconpeggpaaGreatDoor.Rd
open Go Go.RowKit
set_option linter.unusedVariables false
set_option linter.unusedSimpArgs false

/-- 2^64. -/
def B : Nat := 2 ^ 64
/-- 2^512. -/
def M : Nat := B ^ 8
theorem B_val : B = 18446744073709551616 := rfl
theorem B_pos : 0 < B := by decide
theorem M_eq : M = B ^ 8 := rfl
theorem Bp_pos (k : Nat) : 0 < B ^ k := Nat.pow_pos B_pos

/-- The limb at a place. -/
def lb (n i : Nat) : Nat := n / B ^ i % B
theorem lb_lt (n i : Nat) : lb n i < B := Nat.mod_lt _ B_pos
theorem lb_zero (n : Nat) : lb n 0 = n % B := by simp [lb]

/-- The cells of a number of k limbs. -/
def wc (k n : Nat) : Array Value := (Array.range k).map fun i => .int .u64 (lb n i : Nat)
@[simp] theorem wc_size (k n : Nat) : (wc k n).size = k := by simp [wc]
theorem wc_get (k n i : Nat) (h : i < k) : (wc k n)[i]? = some (.int .u64 (lb n i : Nat)) := by simp [wc, h]
/-- The value of a number of 8 limbs. -/
def W (n : Nat) : Value := .agg (wc 8 n)
theorem W_cells (n : Nat) : (W n).cells = wc 8 n := rfl
theorem wc_one (k n : Nat) : (wc k n).all (·.oneCell') = true := by
  rw [Array.all_eq_true]
  intro i hi
  have hi' : i < k := by simpa using hi
  have h := wc_get k n i hi'
  rw [Array.getElem?_eq_getElem hi] at h
  rw [Option.some.inj h]
  rfl

theorem lb_split (n k : Nat) : n % B ^ (k + 1) = n % B ^ k + lb n k * B ^ k := by
  unfold lb
  rw [Nat.pow_succ, Nat.mod_mul, Nat.mul_comm (n / B ^ k % B)]

/-- A number of so many limbs, and what is put at a place where there was nothing. -/
theorem lb_add_at (n d k i : Nat) (hn : n < B ^ k) (hd : d < B) : lb (n + d * B ^ k) i = if i = k then d else lb n i := by
  unfold lb
  rcases Nat.lt_trichotomy i k with h | h | h
  · rw [if_neg (by omega)]
    have e : B ^ k = B ^ i * (B * B ^ (k - i - 1)) := by
      rw [← Nat.pow_succ', ← Nat.pow_add]; congr 1; omega
    rw [e, show n + d * (B ^ i * (B * B ^ (k - i - 1))) = n + B ^ i * (B * (d * B ^ (k - i - 1))) by
      rw [Nat.mul_left_comm, Nat.mul_left_comm d], Nat.add_mul_div_left _ _ (Bp_pos i), Nat.add_mul_mod_self_left]
  · subst h
    rw [if_pos rfl, Nat.add_mul_div_right _ _ (Bp_pos i), Nat.div_eq_of_lt hn, Nat.zero_add, Nat.mod_eq_of_lt hd]
  · rw [if_neg (by omega)]
    have h1 : n + d * B ^ k < B ^ (k + 1) := by
      rw [Nat.pow_succ, Nat.mul_comm (B ^ k)]
      calc n + d * B ^ k < B ^ k + d * B ^ k := by omega
        _ = (d + 1) * B ^ k := by rw [Nat.add_mul, Nat.one_mul, Nat.add_comm]
        _ ≤ B * B ^ k := Nat.mul_le_mul_right _ hd
    have h2 : B ^ (k + 1) ≤ B ^ i := Nat.pow_le_pow_right B_pos h
    have h3 : B ^ k ≤ B ^ i := Nat.pow_le_pow_right B_pos (by omega)
    rw [Nat.div_eq_of_lt (by omega), Nat.div_eq_of_lt (by omega)]

theorem wc_set (k n d j : Nat) (hn : n < B ^ j) (hd : d < B) : (wc k n).setIfInBounds j (.int .u64 (d : Nat)) = wc k (n + d * B ^ j) := by
  apply Array.ext_getElem?
  intro i
  rw [Array.getElem?_setIfInBounds]
  by_cases hk : i < k
  · rw [wc_get k _ i hk, wc_get k _ i hk, lb_add_at n d j i hn hd, wc_size]
    by_cases h : j = i
    · subst h; simp [hk]
    · rw [if_neg h, if_neg (by omega)]
  · have e1 : (wc k n)[i]? = none := Array.getElem?_eq_none (by simp; omega)
    have e2 : (wc k (n + d * B ^ j))[i]? = none := Array.getElem?_eq_none (by simp; omega)
    rw [e1, e2, wc_size]
    split
    · rename_i h; subst h; rw [if_neg hk]
    · rfl

/-- The limbs of a number tell it. -/
theorem lb_inj {k : Nat} : ∀ {n m : Nat}, (∀ i, i < k → lb n i = lb m i) → n % B ^ k = m % B ^ k := by
  induction k with
  | zero => intro n m _; simp [Nat.mod_one]
  | succ k ih =>
    intro n m h
    rw [lb_split, lb_split, ih (fun i hi => h i (by omega)), h k (by omega)]

theorem lb_lt_of {n i k : Nat} (h : n < B ^ k) (hi : k ≤ i) : lb n i = 0 := by
  unfold lb
  rw [Nat.div_eq_of_lt (Nat.lt_of_lt_of_le h (Nat.pow_le_pow_right B_pos hi))]
  rfl

theorem W_zero : W 0 = .agg #[.int .u64 0, .int .u64 0, .int .u64 0, .int .u64 0, .int .u64 0, .int .u64 0, .int .u64 0, .int .u64 0] := by kernel_rfl

/-- How many limbs, from place o on, of at most so many, till only noughts follow. -/
def tl (n o : Nat) : Nat → Nat
  | 0 => 0
  | k + 1 => if lb n (o + k) = 0 then tl n o k else k + 1
theorem tl_le (n o : Nat) : ∀ k, tl n o k ≤ k
  | 0 => by simp [tl]
  | k + 1 => by unfold tl; split; (have := tl_le n o k; omega); omega

theorem lb_part (n o len i : Nat) (h : i < len) : lb (n / B ^ o % B ^ len) i = lb n (o + i) := by
  unfold lb
  have e : B ^ len = B ^ i * B ^ (len - i) := by rw [← Nat.pow_add]; congr 1; omega
  rw [e, Nat.mod_mul_right_div_self, Nat.div_div_eq_div_mul, ← Nat.pow_add, Nat.mod_mod_of_dvd]
  exact ⟨B ^ (len - i - 1), by rw [← Nat.pow_succ']; congr 1; omega⟩

/-- How many binary digits. -/
abbrev bl (n : Nat) : Nat := Go.bitLen n
theorem bl_zero : bl 0 = 0 := rfl
theorem bl_spec (n : Nat) : n < 2 ^ bl n ∧ (n ≠ 0 → 2 ^ (bl n - 1) ≤ n) := bitLen_spec n
theorem bl_pos {n : Nat} (h : n ≠ 0) : 0 < bl n := by unfold bl bitLen; rw [if_neg h]; omega
theorem bl_le {n k : Nat} : bl n ≤ k ↔ n < 2 ^ k := by
  constructor
  · intro h
    exact Nat.lt_of_lt_of_le (bl_spec n).1 (Nat.pow_le_pow_right (by omega) h)
  · intro h
    by_cases h0 : n = 0
    · subst h0; simp [bl, bitLen]
    · have h1 := (bl_spec n).2 h0
      have h2 := bl_pos h0
      have : 2 ^ (bl n - 1) < 2 ^ k := by omega
      have := (Nat.pow_lt_pow_iff_right (a := 2) (by omega)).1 this
      omega
theorem bl_lt (n k : Nat) (h : n < 2 ^ k) : bl n ≤ k := bl_le.2 h
theorem bl_shift (n b : Nat) (h : n / 2 ^ b ≠ 0) : bl n = b + bl (n / 2 ^ b) := bitLen_shift n b h

theorem lib_aux : ∀ (f x : Nat), x < 2 ^ f → Lib.bitLenAux f x = bl x
  | 0, x, h => by
    have : x = 0 := by simpa using h
    subst this; rfl
  | f + 1, x, h => by
    simp only [Lib.bitLenAux]
    by_cases h0 : x = 0
    · subst h0; rfl
    · rw [if_neg h0, lib_aux f (x / 2) (by rw [Nat.pow_succ] at h; omega)]
      by_cases h1 : x / 2 = 0
      · have : x = 1 := by omega
        subst this; rfl
      · have := bl_shift x 1 (by simpa using h1)
        simpa using this.symm
theorem lib_bitLen (x : Nat) (h : x < B) : Lib.bitLen x = bl x := lib_aux 64 x h

/-- What tl tells of the number of digits. -/
theorem bl_tl (n o : Nat) : ∀ len, bl (n / B ^ o % B ^ len) = if tl n o len = 0 then 0 else 64 * (tl n o len - 1) + bl (lb n (o + (tl n o len - 1)))
  | 0 => by simp [tl, Nat.mod_one, bl_zero]
  | len + 1 => by
    have e := lb_split (n / B ^ o) len
    have e2 : lb (n / B ^ o) len = lb n (o + len) := by unfold lb; rw [Nat.div_div_eq_div_mul, ← Nat.pow_add]
    rw [e2] at e
    unfold tl
    by_cases h : lb n (o + len) = 0
    · rw [if_pos h, e, h, Nat.zero_mul, Nat.add_zero]
      exact bl_tl n o len
    · rw [if_neg h, if_neg (by omega), Nat.add_sub_cancel]
      have hlt : n / B ^ o % B ^ len < B ^ len := Nat.mod_lt _ (Bp_pos len)
      have hp : B ^ len = 2 ^ (64 * len) := by unfold B; rw [← Nat.pow_mul]
      have hdiv : n / B ^ o % B ^ (len + 1) / 2 ^ (64 * len) = lb n (o + len) := by
        rw [e, ← hp, Nat.add_mul_div_right _ _ (Bp_pos len), Nat.div_eq_of_lt hlt, Nat.zero_add]
      rw [bl_shift _ (64 * len) (by rw [hdiv]; exact h), hdiv]

theorem wc_1 (x : Nat) (hx : x < B) : #[Value.int .u64 (x : Nat)] = wc 1 x := by
  have := wc_get 1 x 0 (by omega)
  rw [lb_zero, Nat.mod_eq_of_lt hx] at this
  apply Array.ext_getElem?
  intro i
  by_cases h : i = 0
  · subst h; rw [this]; rfl
  · rw [Array.getElem?_eq_none (by simp; omega), Array.getElem?_eq_none (by simp; omega)]
theorem wc_2 (x y : Nat) (hx : x < B) (hy : y < B) : #[Value.int .u64 (x : Nat), Value.int .u64 (y : Nat)] = wc 2 (x + y * B) := by
  have h := lb_add_at x y 1 
  rw [Nat.pow_one] at h
  have h0 := wc_get 2 (x + y * B) 0 (by omega)
  have h1 := wc_get 2 (x + y * B) 1 (by omega)
  rw [h 0 hx hy, if_neg (by omega), lb_zero, Nat.mod_eq_of_lt hx] at h0
  rw [h 1 hx hy, if_pos rfl] at h1
  apply Array.ext_getElem?
  intro i
  by_cases e : i = 0
  · subst e; rw [h0]; rfl
  · by_cases e' : i = 1
    · subst e'; rw [h1]; rfl
    · rw [Array.getElem?_eq_none (by simp; omega), Array.getElem?_eq_none (by simp; omega)]

theorem cut_len (k n so m : Nat) (hk : so + m ≤ k) : (((wc k n).toList.drop so).take m).length = m := by simp; omega
theorem cut_get (k n so m : Nat) (j : Nat) (v : Value) (h : (((wc k n).toList.drop so).take m)[j]? = some v) : (wc k n)[so + j]? = some v := by
  rw [List.getElem?_take] at h
  split at h
  · rw [List.getElem?_drop, Array.getElem?_toList] at h; exact h
  · cases h
theorem cut_one (k n so m : Nat) : ∀ v ∈ ((wc k n).toList.drop so).take m, v.oneCell' = true := by
  intro v hv
  have h := wc_one k n
  rw [Array.all_eq_true_iff_forall_mem] at h
  exact h v (by simpa using List.mem_of_mem_drop (List.mem_of_mem_take hv))
/-- What a copy of limbs over a row of noughts makes. -/
theorem wc_copy (k n so m : Nat) (hm : m ≤ 8) (hk : so + m ≤ k) :
    wc 8 (n / B ^ so % B ^ m) = ((wc 8 0).toList.take 0 ++ ((wc k n).toList.drop so).take m ++ (wc 8 0).toList.drop (0 + (((wc k n).toList.drop so).take m).length)).toArray := by
  have hl : (((wc k n).toList.drop so).take m).length = m := by simp; omega
  apply Array.ext_getElem?
  intro i
  rw [hl]
  simp only [List.take_zero, List.nil_append, Nat.zero_add, List.getElem?_toArray]
  by_cases h : i < m
  · rw [List.getElem?_append_left (by omega), List.getElem?_take_of_lt h, List.getElem?_drop, wc_get 8 _ i (by omega), Array.getElem?_toList, wc_get k n (so + i) (by omega), lb_part n so m i h]
  · rw [List.getElem?_append_right (by omega), hl, List.getElem?_drop, Array.getElem?_toList, show m + (i - m) = i by omega]
    by_cases h8 : i < 8
    · rw [wc_get 8 _ i h8, wc_get 8 _ i h8, lb_lt_of (Nat.mod_lt _ (Bp_pos m)) (by omega), lb_lt_of (k := 0) (by simp) (by omega)]
    · rw [Array.getElem?_eq_none (by simp; omega), Array.getElem?_eq_none (by simp; omega)]

theorem u64_wrap (x : Nat) : IntKind.u64.wrap (x : Int) = ((x % B : Nat) : Int) := by
  have : IntKind.u64.wrap (x : Int) = (x : Int) % (2 ^ 64 : Int) := rfl
  rw [this, B_val]
  omega
theorem cast_pow2 (k : Nat) : (2 : Int) ^ k = ((2 ^ k : Nat) : Int) := by simp

theorem cast_bne0 (n : Nat) : ((n : Int) != 0) = decide (n ≠ 0) := by
  by_cases h : n = 0 <;> simp [h]
theorem cast_beq0 (n : Nat) : ((n : Int) == 0) = decide (n = 0) := by
  by_cases h : n = 0 <;> simp [h]
end Go.Proofs.YtefpoconpeggpaaGreatDoor.Rd

namespace Go.Proofs.YtefpoconpeggpaaGreatDoor.Rd
set_option linter.unusedVariables false

/-- A format's precision, bits, the bits of its field, its greatest exponent. -/
def fP (f : Nat) : Nat := if f = 1 then 11 else if f = 2 then 24 else if f = 3 then 53 else 113
def fB (f : Nat) : Nat := if f = 1 then 16 else if f = 2 then 32 else if f = 3 then 64 else 128
def fK (f : Nat) : Nat := if f = 1 then 5 else if f = 2 then 8 else if f = 3 then 11 else 15
def fE (f : Nat) : Nat := if f = 1 then 15 else if f = 2 then 127 else if f = 3 then 1023 else 16383
theorem fBPK (f : Nat) : fB f = fP f + fK f := by unfold fB fP fK; split <;> (try split) <;> (try split) <;> rfl
theorem fP_in (f : Nat) : 11 ≤ fP f ∧ fP f ≤ 113 := by unfold fP; split <;> (try split) <;> (try split) <;> omega
theorem fK_in (f : Nat) : 5 ≤ fK f ∧ fK f ≤ 15 := by unfold fK; split <;> (try split) <;> (try split) <;> omega
theorem fB_in (f : Nat) : 16 ≤ fB f ∧ fB f ≤ 128 := by unfold fB; split <;> (try split) <;> (try split) <;> omega
theorem fE_in (f : Nat) : 15 ≤ fE f ∧ fE f ≤ 16383 := by unfold fE; split <;> (try split) <;> (try split) <;> omega
theorem fE_pow (f : Nat) : 2 * fE f + 2 = 2 ^ fK f := by unfold fE fK; split <;> (try split) <;> (try split) <;> decide

/-- A word's sign, field, fraction, significand. -/
def wNeg (f m : Nat) : Bool := decide (2 ^ (fB f - 1) ≤ m)
def wField (f m : Nat) : Nat := m / 2 ^ (fP f - 1) % 2 ^ fK f
def wFrac (f m : Nat) : Nat := m % 2 ^ (fP f - 1)
def wSig (f m : Nat) : Nat := if wField f m = 0 then wFrac f m else wFrac f m + 2 ^ (fP f - 1)
/-- What a word without its sign stands for, in units of the least one. -/
def wV (f m : Nat) : Nat := wSig f m * 2 ^ (wField f m - 1)

theorem wField_lo (f m : Nat) (h : m < 2 ^ (fB f - 1)) : wField f m = m / 2 ^ (fP f - 1) := by
  unfold wField
  apply Nat.mod_eq_of_lt
  have e : 2 ^ (fB f - 1) = 2 ^ (fP f - 1) * 2 ^ fK f := by rw [← Nat.pow_add, fBPK]; congr 1; have := fP_in f; omega
  rw [Nat.div_lt_iff_lt_mul (Nat.pow_pos (by omega)), Nat.mul_comm, ← e]; exact h
theorem wFrac_lt (f m : Nat) : wFrac f m < 2 ^ (fP f - 1) := Nat.mod_lt _ (Nat.pow_pos (by omega))
theorem wSig_lt (f m : Nat) : wSig f m < 2 ^ fP f := by
  have h := wFrac_lt f m
  have e : 2 ^ fP f = 2 ^ (fP f - 1) + 2 ^ (fP f - 1) := by
    obtain ⟨p, hp⟩ : ∃ p, fP f = p + 1 := ⟨fP f - 1, by have := fP_in f; omega⟩
    rw [hp, Nat.add_sub_cancel, Nat.pow_succ]; omega
  unfold wSig; split <;> omega

theorem wV_parts (f m : Nat) (h : m < 2 ^ (fB f - 1)) : ∃ j s, m = j * 2 ^ (fP f - 1) + s ∧ ((j = 0 ∧ s < 2 ^ fP f) ∨ (2 ^ (fP f - 1) ≤ s ∧ s < 2 ^ fP f)) ∧ wV f m = s * 2 ^ j ∧ j = wField f m - 1 ∧ s = wSig f m := by
  have hf := wField_lo f m h
  have e : 2 ^ fP f = 2 * 2 ^ (fP f - 1) := by
    obtain ⟨p, hp⟩ : ∃ p, fP f = p + 1 := ⟨fP f - 1, by have := fP_in f; omega⟩
    rw [hp, Nat.add_sub_cancel, Nat.pow_succ]; omega
  have hd := Nat.div_add_mod m (2 ^ (fP f - 1))
  have hl := wFrac_lt f m
  refine ⟨wField f m - 1, wSig f m, ?_, ?_, rfl, rfl, rfl⟩
  · unfold wSig
    rw [hf]
    unfold wFrac at *
    generalize 2 ^ (fP f - 1) = q at *
    generalize m / q = a at *
    generalize m % q = b at *
    by_cases h0 : a = 0
    · subst h0; simp at hd ⊢; omega
    · obtain ⟨c, rfl⟩ : ∃ c, a = c + 1 := ⟨a - 1, by omega⟩
      rw [if_neg h0, Nat.add_sub_cancel, ← hd, Nat.mul_add, Nat.mul_one, Nat.mul_comm q c]; omega
  · unfold wSig
    split
    · rename_i h0; exact .inl ⟨by omega, by omega⟩
    · exact .inr ⟨by omega, by omega⟩

theorem wV_lt_of_lt (f : Nat) {m n : Nat} (hn : n < 2 ^ (fB f - 1)) (h : m < n) : wV f m < wV f n := by
  obtain ⟨j, s, rfl, h1, h2, _⟩ := wV_parts f m (by omega)
  obtain ⟨k, t, rfl, h3, h4, _⟩ := wV_parts f n hn
  rw [h2, h4]
  clear h2 h4 hn
  have e : 2 ^ fP f = 2 * 2 ^ (fP f - 1) := by
    obtain ⟨p, hp⟩ : ∃ p, fP f = p + 1 := ⟨fP f - 1, by have := fP_in f; omega⟩
    rw [hp, Nat.add_sub_cancel, Nat.pow_succ]; omega
  rw [e] at h1 h3
  have hq : 0 < 2 ^ (fP f - 1) := Nat.pow_pos (by omega)
  generalize 2 ^ (fP f - 1) = q at *
  have hpj : 0 < 2 ^ j := Nat.pow_pos (by omega)
  rcases Nat.lt_trichotomy j k with hjk | rfl | hjk
  · -- a higher field
    obtain ⟨d, rfl⟩ : ∃ d, k = j + 1 + d := ⟨k - j - 1, by omega⟩
    have h5 : q ≤ t := by omega
    have h6 : s * 2 ^ j < 2 * q * 2 ^ j := Nat.mul_lt_mul_of_pos_right (by omega) hpj
    have h7 : q * (2 * 2 ^ j) ≤ t * 2 ^ (j + 1 + d) := by
      rw [Nat.pow_add, Nat.pow_succ, Nat.mul_comm (2 ^ j) 2]
      exact Nat.mul_le_mul h5 (Nat.le_mul_of_pos_right _ (Nat.pow_pos (by omega)))
    have e2 : 2 * q * 2 ^ j = q * (2 * 2 ^ j) := by grind
    omega
  · exact Nat.mul_lt_mul_of_pos_right (by omega) hpj
  · exfalso
    obtain ⟨d, rfl⟩ : ∃ d, j = k + 1 + d := ⟨j - k - 1, by omega⟩
    have h5 : q ≤ s := by omega
    have : (k + 1 + d) * q = k * q + q + d * q := by grind
    omega
theorem wV_le_of_le (f : Nat) {m n : Nat} (hn : n < 2 ^ (fB f - 1)) (h : m ≤ n) : wV f m ≤ wV f n := by
  rcases Nat.lt_or_eq_of_le h with h | rfl
  · exact Nat.le_of_lt (wV_lt_of_lt f hn h)
  · exact Nat.le_refl _
end Go.Proofs.YtefpoconpeggpaaGreatDoor.Rd

namespace Go.Proofs.YtefpoconpeggpaaGreatDoor.Rd
open Go Go.RowKit
set_option linter.unusedVariables false
set_option linter.unusedSimpArgs false
theorem tz3 : ZeroT Tryz.prog 3 #[.int .i64 0] := ZeroT.of (z := .int .i64 0) (by kernel_rfl) rfl
theorem tz24 : ZeroT Tryz.prog 24 (wc 2 0) := ZeroT.of (z := .agg (wc 2 0)) (by kernel_rfl) rfl
theorem tz41 : ZeroT Tryz.prog 41 #[.bool false, .int .i64 0, .slice none 0 0, .slice none 0 0, .int .i64 0] := ZeroT.of (z := .agg #[.bool false, .int .i64 0, .slice none 0 0, .slice none 0 0, .int .i64 0]) (by kernel_rfl) rfl
theorem tz44 : ZeroT Tryz.prog 44 (wc 8 0) := ZeroT.of (z := .agg (wc 8 0)) (by kernel_rfl) rfl
theorem tz46 : ZeroT Tryz.prog 46 #[.bool false, .int .i64 0, .int .u64 0, .int .u64 0, .int .u64 0, .int .u64 0, .int .u64 0, .int .u64 0, .int .u64 0, .int .u64 0] := ZeroT.of (z := .agg #[.bool false, .int .i64 0, .int .u64 0, .int .u64 0, .int .u64 0, .int .u64 0, .int .u64 0, .int .u64 0, .int .u64 0, .int .u64 0]) (by kernel_rfl) rfl
theorem tz128 : ZeroT Tryz.prog 128 #[.int .i64 0, .int .i64 0, .int .i64 0, .int .i64 0, .int .i64 0] := ZeroT.of (z := .agg #[.int .i64 0, .int .i64 0, .int .i64 0, .int .i64 0, .int .i64 0]) (by kernel_rfl) rfl
theorem tz159 : ZeroT Tryz.prog 159 #[.string ⟨#[]⟩, .int .i64 0, .int .i64 0, .int .i64 0] := ZeroT.of (z := .agg #[.string ⟨#[]⟩, .int .i64 0, .int .i64 0, .int .i64 0]) (by kernel_rfl) rfl
theorem tz189 : ZeroT Tryz.prog 189 (wc 17 0) := ZeroT.of (z := .agg (wc 17 0)) (by kernel_rfl) rfl
theorem tz217 : ZeroT Tryz.prog 217 #[.nilFunc, .nilFunc, .nilFunc, .nilFunc, .nilFunc, .nilFunc] := ZeroT.of (z := .agg #[.nilFunc, .nilFunc, .nilFunc, .nilFunc, .nilFunc, .nilFunc]) (by kernel_rfl) rfl
theorem tz278 : ZeroT Tryz.prog 278 (wc 16 0) := ZeroT.of (z := .agg (wc 16 0)) (by kernel_rfl) rfl
theorem tz286 : ZeroT Tryz.prog 286 #[.int .i64 0, .int .i64 0, .int .i64 0, .int .i64 0] := ZeroT.of (z := .agg #[.int .i64 0, .int .i64 0, .int .i64 0, .int .i64 0]) (by kernel_rfl) rfl
theorem tz291 : ZeroT Tryz.prog 291 #[.nilFunc] := ZeroT.of (z := .nilFunc) (by kernel_rfl) rfl
theorem tz306 : ZeroT Tryz.prog 306 (wc 16 0) := ZeroT.of (z := .agg (wc 16 0)) (by kernel_rfl) rfl
theorem ta24 : AggT Tryz.prog 24 2 := AggT.of (by kernel_rfl)
theorem ta41 : AggT Tryz.prog 41 5 := AggT.of (by kernel_rfl)
theorem ta44 : AggT Tryz.prog 44 8 := AggT.of (by kernel_rfl)
theorem ta46 : AggT Tryz.prog 46 10 := AggT.of (by kernel_rfl)
theorem ta83 : AggT Tryz.prog 83 5 := AggT.of (by kernel_rfl)
theorem ta128 : AggT Tryz.prog 128 5 := AggT.of (by kernel_rfl)
theorem ta159 : AggT Tryz.prog 159 4 := AggT.of (by kernel_rfl)
theorem ta189 : AggT Tryz.prog 189 17 := AggT.of (by kernel_rfl)
theorem ta204 : AggT Tryz.prog 204 1 := AggT.of (by kernel_rfl)
theorem ta212 : AggT Tryz.prog 212 1 := AggT.of (by kernel_rfl)
theorem ta217 : AggT Tryz.prog 217 6 := AggT.of (by kernel_rfl)
theorem ta278 : AggT Tryz.prog 278 16 := AggT.of (by kernel_rfl)
theorem ta286 : AggT Tryz.prog 286 4 := AggT.of (by kernel_rfl)
theorem ta306 : AggT Tryz.prog 306 16 := AggT.of (by kernel_rfl)
theorem tc3 : CellT Tryz.prog 3 := CellT.of (by kernel_rfl)
theorem tc4 : CellT Tryz.prog 4 := CellT.of (by kernel_rfl)
theorem tc22 : CellT Tryz.prog 22 := CellT.of (by kernel_rfl)
theorem tc30 : CellT Tryz.prog 30 := CellT.of (by kernel_rfl)
theorem tc32 : CellT Tryz.prog 32 := CellT.of (by kernel_rfl)
theorem tc39 : CellT Tryz.prog 39 := CellT.of (by kernel_rfl)
theorem tc67 : CellT Tryz.prog 67 := CellT.of (by kernel_rfl)
theorem tc72 : CellT Tryz.prog 72 := CellT.of (by kernel_rfl)
theorem tc82 : CellT Tryz.prog 82 := CellT.of (by kernel_rfl)
theorem tc123 : CellT Tryz.prog 123 := CellT.of (by kernel_rfl)
theorem tc173 : CellT Tryz.prog 173 := CellT.of (by kernel_rfl)
theorem tc179 : CellT Tryz.prog 179 := CellT.of (by kernel_rfl)
theorem tc291 : CellT Tryz.prog 291 := CellT.of (by kernel_rfl)
theorem ts39 : SliceT Tryz.prog 39 72 := by unfold SliceT; kernel_rfl
theorem ts123 : SliceT Tryz.prog 123 22 := by unfold SliceT; kernel_rfl
theorem tr44 : ArrT Tryz.prog 44 8 22 := by unfold ArrT; kernel_rfl
theorem tr286 : ArrT Tryz.prog 286 4 3 := by unfold ArrT; kernel_rfl
theorem te22 : ElemT Tryz.prog 22 1 (.int .u64 0) := ElemT.of (by kernel_rfl)
theorem te72 : ElemT Tryz.prog 72 1 (.int .u32 0) := ElemT.of (by kernel_rfl)
theorem gf7 : GoF Tryz.prog 7 := ⟨_, Tryz.func7, by kernel_rfl, by kernel_rfl⟩
theorem gf8 : GoF Tryz.prog 8 := ⟨_, Tryz.func8, by kernel_rfl, by kernel_rfl⟩
theorem gf9 : GoF Tryz.prog 9 := ⟨_, Tryz.func9, by kernel_rfl, by kernel_rfl⟩
theorem gf11 : GoF Tryz.prog 11 := ⟨_, Tryz.func11, by kernel_rfl, by kernel_rfl⟩
theorem gf13 : GoF Tryz.prog 13 := ⟨_, Tryz.func13, by kernel_rfl, by kernel_rfl⟩
theorem gf14 : GoF Tryz.prog 14 := ⟨_, Tryz.func14, by kernel_rfl, by kernel_rfl⟩
theorem gf15 : GoF Tryz.prog 15 := ⟨_, Tryz.func15, by kernel_rfl, by kernel_rfl⟩
theorem gf16 : GoF Tryz.prog 16 := ⟨_, Tryz.func16, by kernel_rfl, by kernel_rfl⟩
theorem gf17 : GoF Tryz.prog 17 := ⟨_, Tryz.func17, by kernel_rfl, by kernel_rfl⟩
theorem gf18 : GoF Tryz.prog 18 := ⟨_, Tryz.func18, by kernel_rfl, by kernel_rfl⟩
theorem gf19 : GoF Tryz.prog 19 := ⟨_, Tryz.func19, by kernel_rfl, by kernel_rfl⟩
theorem gf20 : GoF Tryz.prog 20 := ⟨_, Tryz.func20, by kernel_rfl, by kernel_rfl⟩
theorem gf23 : GoF Tryz.prog 23 := ⟨_, Tryz.func23, by kernel_rfl, by kernel_rfl⟩
theorem gf25 : GoF Tryz.prog 25 := ⟨_, Tryz.func25, by kernel_rfl, by kernel_rfl⟩
theorem gf27 : GoF Tryz.prog 27 := ⟨_, Tryz.func27, by kernel_rfl, by kernel_rfl⟩
theorem gf29 : GoF Tryz.prog 29 := ⟨_, Tryz.func29, by kernel_rfl, by kernel_rfl⟩
theorem gf30 : GoF Tryz.prog 30 := ⟨_, Tryz.func30, by kernel_rfl, by kernel_rfl⟩
theorem gf31 : GoF Tryz.prog 31 := ⟨_, Tryz.func31, by kernel_rfl, by kernel_rfl⟩
theorem gf32 : GoF Tryz.prog 32 := ⟨_, Tryz.func32, by kernel_rfl, by kernel_rfl⟩
theorem gf33 : GoF Tryz.prog 33 := ⟨_, Tryz.func33, by kernel_rfl, by kernel_rfl⟩
theorem gf34 : GoF Tryz.prog 34 := ⟨_, Tryz.func34, by kernel_rfl, by kernel_rfl⟩
theorem gf35 : GoF Tryz.prog 35 := ⟨_, Tryz.func35, by kernel_rfl, by kernel_rfl⟩
theorem gf36 : GoF Tryz.prog 36 := ⟨_, Tryz.func36, by kernel_rfl, by kernel_rfl⟩
theorem gf37 : GoF Tryz.prog 37 := ⟨_, Tryz.func37, by kernel_rfl, by kernel_rfl⟩
theorem gf38 : GoF Tryz.prog 38 := ⟨_, Tryz.func38, by kernel_rfl, by kernel_rfl⟩
theorem gf39 : GoF Tryz.prog 39 := ⟨_, Tryz.func39, by kernel_rfl, by kernel_rfl⟩
theorem gf40 : GoF Tryz.prog 40 := ⟨_, Tryz.func40, by kernel_rfl, by kernel_rfl⟩
theorem gf41 : GoF Tryz.prog 41 := ⟨_, Tryz.func41, by kernel_rfl, by kernel_rfl⟩
theorem gf42 : GoF Tryz.prog 42 := ⟨_, Tryz.func42, by kernel_rfl, by kernel_rfl⟩
theorem gf43 : GoF Tryz.prog 43 := ⟨_, Tryz.func43, by kernel_rfl, by kernel_rfl⟩
theorem gf44 : GoF Tryz.prog 44 := ⟨_, Tryz.func44, by kernel_rfl, by kernel_rfl⟩
theorem gf45 : GoF Tryz.prog 45 := ⟨_, Tryz.func45, by kernel_rfl, by kernel_rfl⟩
theorem gf46 : GoF Tryz.prog 46 := ⟨_, Tryz.func46, by kernel_rfl, by kernel_rfl⟩
theorem gf47 : GoF Tryz.prog 47 := ⟨_, Tryz.func47, by kernel_rfl, by kernel_rfl⟩
theorem gf48 : GoF Tryz.prog 48 := ⟨_, Tryz.func48, by kernel_rfl, by kernel_rfl⟩
theorem gf51 : GoF Tryz.prog 51 := ⟨_, Tryz.func51, by kernel_rfl, by kernel_rfl⟩
theorem gf56 : GoF Tryz.prog 56 := ⟨_, Tryz.func56, by kernel_rfl, by kernel_rfl⟩
theorem gf59 : GoF Tryz.prog 59 := ⟨_, Tryz.func59, by kernel_rfl, by kernel_rfl⟩
theorem gf61 : GoF Tryz.prog 61 := ⟨_, Tryz.func61, by kernel_rfl, by kernel_rfl⟩
theorem gf62 : GoF Tryz.prog 62 := ⟨_, Tryz.func62, by kernel_rfl, by kernel_rfl⟩
theorem gf63 : GoF Tryz.prog 63 := ⟨_, Tryz.func63, by kernel_rfl, by kernel_rfl⟩
theorem gf64 : GoF Tryz.prog 64 := ⟨_, Tryz.func64, by kernel_rfl, by kernel_rfl⟩
theorem gf65 : GoF Tryz.prog 65 := ⟨_, Tryz.func65, by kernel_rfl, by kernel_rfl⟩
theorem gf66 : GoF Tryz.prog 66 := ⟨_, Tryz.func66, by kernel_rfl, by kernel_rfl⟩
theorem gf67 : GoF Tryz.prog 67 := ⟨_, Tryz.func67, by kernel_rfl, by kernel_rfl⟩
theorem gf68 : GoF Tryz.prog 68 := ⟨_, Tryz.func68, by kernel_rfl, by kernel_rfl⟩
theorem gf69 : GoF Tryz.prog 69 := ⟨_, Tryz.func69, by kernel_rfl, by kernel_rfl⟩
theorem gf70 : GoF Tryz.prog 70 := ⟨_, Tryz.func70, by kernel_rfl, by kernel_rfl⟩
theorem gf71 : GoF Tryz.prog 71 := ⟨_, Tryz.func71, by kernel_rfl, by kernel_rfl⟩
theorem gf72 : GoF Tryz.prog 72 := ⟨_, Tryz.func72, by kernel_rfl, by kernel_rfl⟩
theorem gf73 : GoF Tryz.prog 73 := ⟨_, Tryz.func73, by kernel_rfl, by kernel_rfl⟩
theorem gf74 : GoF Tryz.prog 74 := ⟨_, Tryz.func74, by kernel_rfl, by kernel_rfl⟩
theorem gf75 : GoF Tryz.prog 75 := ⟨_, Tryz.func75, by kernel_rfl, by kernel_rfl⟩
theorem gf76 : GoF Tryz.prog 76 := ⟨_, Tryz.func76, by kernel_rfl, by kernel_rfl⟩
theorem gf77 : GoF Tryz.prog 77 := ⟨_, Tryz.func77, by kernel_rfl, by kernel_rfl⟩
theorem gf81 : GoF Tryz.prog 81 := ⟨_, Tryz.func81, by kernel_rfl, by kernel_rfl⟩
theorem gf85 : GoF Tryz.prog 85 := ⟨_, Tryz.func85, by kernel_rfl, by kernel_rfl⟩
theorem gf86 : GoF Tryz.prog 86 := ⟨_, Tryz.func86, by kernel_rfl, by kernel_rfl⟩
theorem gf87 : GoF Tryz.prog 87 := ⟨_, Tryz.func87, by kernel_rfl, by kernel_rfl⟩
theorem gf88 : GoF Tryz.prog 88 := ⟨_, Tryz.func88, by kernel_rfl, by kernel_rfl⟩
theorem gf89 : GoF Tryz.prog 89 := ⟨_, Tryz.func89, by kernel_rfl, by kernel_rfl⟩
theorem gf91 : GoF Tryz.prog 91 := ⟨_, Tryz.func91, by kernel_rfl, by kernel_rfl⟩
theorem gf92 : GoF Tryz.prog 92 := ⟨_, Tryz.func92, by kernel_rfl, by kernel_rfl⟩
theorem gf93 : GoF Tryz.prog 93 := ⟨_, Tryz.func93, by kernel_rfl, by kernel_rfl⟩
theorem gf95 : GoF Tryz.prog 95 := ⟨_, Tryz.func95, by kernel_rfl, by kernel_rfl⟩
theorem gf96 : GoF Tryz.prog 96 := ⟨_, Tryz.func96, by kernel_rfl, by kernel_rfl⟩
theorem gf97 : GoF Tryz.prog 97 := ⟨_, Tryz.func97, by kernel_rfl, by kernel_rfl⟩
theorem gf98 : GoF Tryz.prog 98 := ⟨_, Tryz.func98, by kernel_rfl, by kernel_rfl⟩
theorem gf99 : GoF Tryz.prog 99 := ⟨_, Tryz.func99, by kernel_rfl, by kernel_rfl⟩
theorem gf100 : GoF Tryz.prog 100 := ⟨_, Tryz.func100, by kernel_rfl, by kernel_rfl⟩
theorem gf101 : GoF Tryz.prog 101 := ⟨_, Tryz.func101, by kernel_rfl, by kernel_rfl⟩
theorem gf102 : GoF Tryz.prog 102 := ⟨_, Tryz.func102, by kernel_rfl, by kernel_rfl⟩
theorem gf103 : GoF Tryz.prog 103 := ⟨_, Tryz.func103, by kernel_rfl, by kernel_rfl⟩
theorem gf104 : GoF Tryz.prog 104 := ⟨_, Tryz.func104, by kernel_rfl, by kernel_rfl⟩
theorem gf105 : GoF Tryz.prog 105 := ⟨_, Tryz.func105, by kernel_rfl, by kernel_rfl⟩
theorem gf106 : GoF Tryz.prog 106 := ⟨_, Tryz.func106, by kernel_rfl, by kernel_rfl⟩
theorem gf107 : GoF Tryz.prog 107 := ⟨_, Tryz.func107, by kernel_rfl, by kernel_rfl⟩
theorem gf108 : GoF Tryz.prog 108 := ⟨_, Tryz.func108, by kernel_rfl, by kernel_rfl⟩
theorem gf109 : GoF Tryz.prog 109 := ⟨_, Tryz.func109, by kernel_rfl, by kernel_rfl⟩
theorem gf110 : GoF Tryz.prog 110 := ⟨_, Tryz.func110, by kernel_rfl, by kernel_rfl⟩
theorem gf111 : GoF Tryz.prog 111 := ⟨_, Tryz.func111, by kernel_rfl, by kernel_rfl⟩
theorem gf112 : GoF Tryz.prog 112 := ⟨_, Tryz.func112, by kernel_rfl, by kernel_rfl⟩
theorem gf113 : GoF Tryz.prog 113 := ⟨_, Tryz.func113, by kernel_rfl, by kernel_rfl⟩
theorem gf114 : GoF Tryz.prog 114 := ⟨_, Tryz.func114, by kernel_rfl, by kernel_rfl⟩
theorem gf115 : GoF Tryz.prog 115 := ⟨_, Tryz.func115, by kernel_rfl, by kernel_rfl⟩
theorem gf116 : GoF Tryz.prog 116 := ⟨_, Tryz.func116, by kernel_rfl, by kernel_rfl⟩
theorem gf118 : GoF Tryz.prog 118 := ⟨_, Tryz.func118, by kernel_rfl, by kernel_rfl⟩
theorem gf119 : GoF Tryz.prog 119 := ⟨_, Tryz.func119, by kernel_rfl, by kernel_rfl⟩
theorem gf120 : GoF Tryz.prog 120 := ⟨_, Tryz.func120, by kernel_rfl, by kernel_rfl⟩
theorem gf121 : GoF Tryz.prog 121 := ⟨_, Tryz.func121, by kernel_rfl, by kernel_rfl⟩
theorem gf122 : GoF Tryz.prog 122 := ⟨_, Tryz.func122, by kernel_rfl, by kernel_rfl⟩
theorem gf123 : GoF Tryz.prog 123 := ⟨_, Tryz.func123, by kernel_rfl, by kernel_rfl⟩
theorem gf124 : GoF Tryz.prog 124 := ⟨_, Tryz.func124, by kernel_rfl, by kernel_rfl⟩
theorem gf125 : GoF Tryz.prog 125 := ⟨_, Tryz.func125, by kernel_rfl, by kernel_rfl⟩
theorem gf126 : GoF Tryz.prog 126 := ⟨_, Tryz.func126, by kernel_rfl, by kernel_rfl⟩
theorem gf127 : GoF Tryz.prog 127 := ⟨_, Tryz.func127, by kernel_rfl, by kernel_rfl⟩
theorem gf128 : GoF Tryz.prog 128 := ⟨_, Tryz.func128, by kernel_rfl, by kernel_rfl⟩
theorem gf129 : GoF Tryz.prog 129 := ⟨_, Tryz.func129, by kernel_rfl, by kernel_rfl⟩
theorem gf130 : GoF Tryz.prog 130 := ⟨_, Tryz.func130, by kernel_rfl, by kernel_rfl⟩
theorem gf131 : GoF Tryz.prog 131 := ⟨_, Tryz.func131, by kernel_rfl, by kernel_rfl⟩
theorem gf132 : GoF Tryz.prog 132 := ⟨_, Tryz.func132, by kernel_rfl, by kernel_rfl⟩
theorem gf133 : GoF Tryz.prog 133 := ⟨_, Tryz.func133, by kernel_rfl, by kernel_rfl⟩
theorem gf134 : GoF Tryz.prog 134 := ⟨_, Tryz.func134, by kernel_rfl, by kernel_rfl⟩
theorem gf135 : GoF Tryz.prog 135 := ⟨_, Tryz.func135, by kernel_rfl, by kernel_rfl⟩
theorem gf139 : GoF Tryz.prog 139 := ⟨_, Tryz.func139, by kernel_rfl, by kernel_rfl⟩
theorem gf140 : GoF Tryz.prog 140 := ⟨_, Tryz.func140, by kernel_rfl, by kernel_rfl⟩
theorem gf141 : GoF Tryz.prog 141 := ⟨_, Tryz.func141, by kernel_rfl, by kernel_rfl⟩
theorem gf142 : GoF Tryz.prog 142 := ⟨_, Tryz.func142, by kernel_rfl, by kernel_rfl⟩
theorem gf143 : GoF Tryz.prog 143 := ⟨_, Tryz.func143, by kernel_rfl, by kernel_rfl⟩
theorem gf144 : GoF Tryz.prog 144 := ⟨_, Tryz.func144, by kernel_rfl, by kernel_rfl⟩
theorem gf145 : GoF Tryz.prog 145 := ⟨_, Tryz.func145, by kernel_rfl, by kernel_rfl⟩
theorem gf146 : GoF Tryz.prog 146 := ⟨_, Tryz.func146, by kernel_rfl, by kernel_rfl⟩
theorem gf147 : GoF Tryz.prog 147 := ⟨_, Tryz.func147, by kernel_rfl, by kernel_rfl⟩
theorem gf148 : GoF Tryz.prog 148 := ⟨_, Tryz.func148, by kernel_rfl, by kernel_rfl⟩
theorem gf149 : GoF Tryz.prog 149 := ⟨_, Tryz.func149, by kernel_rfl, by kernel_rfl⟩
theorem gf150 : GoF Tryz.prog 150 := ⟨_, Tryz.func150, by kernel_rfl, by kernel_rfl⟩
theorem gf151 : GoF Tryz.prog 151 := ⟨_, Tryz.func151, by kernel_rfl, by kernel_rfl⟩
theorem gf152 : GoF Tryz.prog 152 := ⟨_, Tryz.func152, by kernel_rfl, by kernel_rfl⟩
theorem gf153 : GoF Tryz.prog 153 := ⟨_, Tryz.func153, by kernel_rfl, by kernel_rfl⟩
theorem gf154 : GoF Tryz.prog 154 := ⟨_, Tryz.func154, by kernel_rfl, by kernel_rfl⟩
theorem gf155 : GoF Tryz.prog 155 := ⟨_, Tryz.func155, by kernel_rfl, by kernel_rfl⟩
theorem gf156 : GoF Tryz.prog 156 := ⟨_, Tryz.func156, by kernel_rfl, by kernel_rfl⟩
theorem gf157 : GoF Tryz.prog 157 := ⟨_, Tryz.func157, by kernel_rfl, by kernel_rfl⟩
theorem gf158 : GoF Tryz.prog 158 := ⟨_, Tryz.func158, by kernel_rfl, by kernel_rfl⟩
theorem gf159 : GoF Tryz.prog 159 := ⟨_, Tryz.func159, by kernel_rfl, by kernel_rfl⟩
theorem gf161 : GoF Tryz.prog 161 := ⟨_, Tryz.func161, by kernel_rfl, by kernel_rfl⟩
theorem gf166 : GoF Tryz.prog 166 := ⟨_, Tryz.func166, by kernel_rfl, by kernel_rfl⟩
theorem gf168 : GoF Tryz.prog 168 := ⟨_, Tryz.func168, by kernel_rfl, by kernel_rfl⟩
theorem gf169 : GoF Tryz.prog 169 := ⟨_, Tryz.func169, by kernel_rfl, by kernel_rfl⟩
theorem gf170 : GoF Tryz.prog 170 := ⟨_, Tryz.func170, by kernel_rfl, by kernel_rfl⟩
theorem gf171 : GoF Tryz.prog 171 := ⟨_, Tryz.func171, by kernel_rfl, by kernel_rfl⟩
theorem gf176 : GoF Tryz.prog 176 := ⟨_, Tryz.func176, by kernel_rfl, by kernel_rfl⟩
theorem gf207 : GoF Tryz.prog 207 := ⟨_, Tryz.func207, by kernel_rfl, by kernel_rfl⟩
theorem gf208 : GoF Tryz.prog 208 := ⟨_, Tryz.func208, by kernel_rfl, by kernel_rfl⟩
theorem gf209 : GoF Tryz.prog 209 := ⟨_, Tryz.func209, by kernel_rfl, by kernel_rfl⟩
theorem gf210 : GoF Tryz.prog 210 := ⟨_, Tryz.func210, by kernel_rfl, by kernel_rfl⟩
theorem gf211 : GoF Tryz.prog 211 := ⟨_, Tryz.func211, by kernel_rfl, by kernel_rfl⟩
theorem gf212 : GoF Tryz.prog 212 := ⟨_, Tryz.func212, by kernel_rfl, by kernel_rfl⟩
theorem gf213 : GoF Tryz.prog 213 := ⟨_, Tryz.func213, by kernel_rfl, by kernel_rfl⟩
theorem gf214 : GoF Tryz.prog 214 := ⟨_, Tryz.func214, by kernel_rfl, by kernel_rfl⟩
theorem gf215 : GoF Tryz.prog 215 := ⟨_, Tryz.func215, by kernel_rfl, by kernel_rfl⟩
theorem gf217 : GoF Tryz.prog 217 := ⟨_, Tryz.func217, by kernel_rfl, by kernel_rfl⟩
theorem gf218 : GoF Tryz.prog 218 := ⟨_, Tryz.func218, by kernel_rfl, by kernel_rfl⟩
theorem gf219 : GoF Tryz.prog 219 := ⟨_, Tryz.func219, by kernel_rfl, by kernel_rfl⟩
theorem gf220 : GoF Tryz.prog 220 := ⟨_, Tryz.func220, by kernel_rfl, by kernel_rfl⟩
theorem gf221 : GoF Tryz.prog 221 := ⟨_, Tryz.func221, by kernel_rfl, by kernel_rfl⟩
theorem gf223 : GoF Tryz.prog 223 := ⟨_, Tryz.func223, by kernel_rfl, by kernel_rfl⟩
theorem gf224 : GoF Tryz.prog 224 := ⟨_, Tryz.func224, by kernel_rfl, by kernel_rfl⟩
theorem gf225 : GoF Tryz.prog 225 := ⟨_, Tryz.func225, by kernel_rfl, by kernel_rfl⟩
theorem gf226 : GoF Tryz.prog 226 := ⟨_, Tryz.func226, by kernel_rfl, by kernel_rfl⟩
theorem gf227 : GoF Tryz.prog 227 := ⟨_, Tryz.func227, by kernel_rfl, by kernel_rfl⟩
theorem gf228 : GoF Tryz.prog 228 := ⟨_, Tryz.func228, by kernel_rfl, by kernel_rfl⟩
theorem gf229 : GoF Tryz.prog 229 := ⟨_, Tryz.func229, by kernel_rfl, by kernel_rfl⟩
theorem gf230 : GoF Tryz.prog 230 := ⟨_, Tryz.func230, by kernel_rfl, by kernel_rfl⟩
theorem gf231 : GoF Tryz.prog 231 := ⟨_, Tryz.func231, by kernel_rfl, by kernel_rfl⟩
theorem gf232 : GoF Tryz.prog 232 := ⟨_, Tryz.func232, by kernel_rfl, by kernel_rfl⟩
theorem gf233 : GoF Tryz.prog 233 := ⟨_, Tryz.func233, by kernel_rfl, by kernel_rfl⟩
theorem gf234 : GoF Tryz.prog 234 := ⟨_, Tryz.func234, by kernel_rfl, by kernel_rfl⟩
theorem gf235 : GoF Tryz.prog 235 := ⟨_, Tryz.func235, by kernel_rfl, by kernel_rfl⟩
theorem gf236 : GoF Tryz.prog 236 := ⟨_, Tryz.func236, by kernel_rfl, by kernel_rfl⟩
theorem gf237 : GoF Tryz.prog 237 := ⟨_, Tryz.func237, by kernel_rfl, by kernel_rfl⟩
theorem gf238 : GoF Tryz.prog 238 := ⟨_, Tryz.func238, by kernel_rfl, by kernel_rfl⟩
theorem gf239 : GoF Tryz.prog 239 := ⟨_, Tryz.func239, by kernel_rfl, by kernel_rfl⟩
theorem gf242 : GoF Tryz.prog 242 := ⟨_, Tryz.func242, by kernel_rfl, by kernel_rfl⟩
theorem gf243 : GoF Tryz.prog 243 := ⟨_, Tryz.func243, by kernel_rfl, by kernel_rfl⟩
theorem gf244 : GoF Tryz.prog 244 := ⟨_, Tryz.func244, by kernel_rfl, by kernel_rfl⟩
theorem gf245 : GoF Tryz.prog 245 := ⟨_, Tryz.func245, by kernel_rfl, by kernel_rfl⟩
theorem gf246 : GoF Tryz.prog 246 := ⟨_, Tryz.func246, by kernel_rfl, by kernel_rfl⟩
theorem gf247 : GoF Tryz.prog 247 := ⟨_, Tryz.func247, by kernel_rfl, by kernel_rfl⟩
theorem gf248 : GoF Tryz.prog 248 := ⟨_, Tryz.func248, by kernel_rfl, by kernel_rfl⟩
theorem gf249 : GoF Tryz.prog 249 := ⟨_, Tryz.func249, by kernel_rfl, by kernel_rfl⟩
theorem gf250 : GoF Tryz.prog 250 := ⟨_, Tryz.func250, by kernel_rfl, by kernel_rfl⟩
theorem gf251 : GoF Tryz.prog 251 := ⟨_, Tryz.func251, by kernel_rfl, by kernel_rfl⟩
theorem gf252 : GoF Tryz.prog 252 := ⟨_, Tryz.func252, by kernel_rfl, by kernel_rfl⟩
theorem gf253 : GoF Tryz.prog 253 := ⟨_, Tryz.func253, by kernel_rfl, by kernel_rfl⟩
theorem gf254 : GoF Tryz.prog 254 := ⟨_, Tryz.func254, by kernel_rfl, by kernel_rfl⟩
theorem gf255 : GoF Tryz.prog 255 := ⟨_, Tryz.func255, by kernel_rfl, by kernel_rfl⟩
theorem gf256 : GoF Tryz.prog 256 := ⟨_, Tryz.func256, by kernel_rfl, by kernel_rfl⟩
theorem gf257 : GoF Tryz.prog 257 := ⟨_, Tryz.func257, by kernel_rfl, by kernel_rfl⟩
theorem gf258 : GoF Tryz.prog 258 := ⟨_, Tryz.func258, by kernel_rfl, by kernel_rfl⟩
theorem gf259 : GoF Tryz.prog 259 := ⟨_, Tryz.func259, by kernel_rfl, by kernel_rfl⟩
theorem gf260 : GoF Tryz.prog 260 := ⟨_, Tryz.func260, by kernel_rfl, by kernel_rfl⟩
theorem gf261 : GoF Tryz.prog 261 := ⟨_, Tryz.func261, by kernel_rfl, by kernel_rfl⟩
theorem gf262 : GoF Tryz.prog 262 := ⟨_, Tryz.func262, by kernel_rfl, by kernel_rfl⟩
theorem gf263 : GoF Tryz.prog 263 := ⟨_, Tryz.func263, by kernel_rfl, by kernel_rfl⟩
theorem gf266 : GoF Tryz.prog 266 := ⟨_, Tryz.func266, by kernel_rfl, by kernel_rfl⟩
theorem gf267 : GoF Tryz.prog 267 := ⟨_, Tryz.func267, by kernel_rfl, by kernel_rfl⟩
theorem gf268 : GoF Tryz.prog 268 := ⟨_, Tryz.func268, by kernel_rfl, by kernel_rfl⟩
theorem gf269 : GoF Tryz.prog 269 := ⟨_, Tryz.func269, by kernel_rfl, by kernel_rfl⟩
theorem gf270 : GoF Tryz.prog 270 := ⟨_, Tryz.func270, by kernel_rfl, by kernel_rfl⟩
theorem gf271 : GoF Tryz.prog 271 := ⟨_, Tryz.func271, by kernel_rfl, by kernel_rfl⟩
end Go.Proofs.YtefpoconpeggpaaGreatDoor.Rd
