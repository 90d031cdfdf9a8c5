/- What limb.Mul, trim, Len, wide.Of, Power and the layer prod answer, as numbers. -/
import Derived.Test.YtoakmlopjeecoaaGreatDoorJ01
import Derived.Lib.BitFns
import Derived.Laws.MathBits
import Derived.Test.YtoakmlopjeecoaaGreatDoorProg
import Derived.Test.YtoakmlopjeecoaaGreatDoorRdS
import Derived.Lib.Hide
namespace Go.Proofs.YtoakmlopjeecoaaGreatDoor.Rd
open Go Go.RowKit
set_option linter.unusedVariables false

section picks
variable {P : Program} {ops : Array Oper} {rest : List Oper} {Q : Exit → Act → World → Prop} {a : Act} {w : World}
end picks

end Go.Proofs.YtoakmlopjeecoaaGreatDoor.Rd

namespace Go.Proofs.YtoakmlopjeecoaaGreatDoor.Rd
open Go Go.RowKit
set_option linter.unusedVariables false
set_option linter.unusedSimpArgs false

/-- 2^64. -/
def B : Nat := 2 ^ 64
/-- 2^512. -/
def M : Nat := B ^ 8
theorem B_val : B = 18446744073709551616 := rfl
theorem B_pos : 0 < B := by decide
theorem M_eq : M = B ^ 8 := rfl
theorem Bp_pos (k : Nat) : 0 < B ^ k := Nat.pow_pos B_pos

/-- The limb at a place. -/
def lb (n i : Nat) : Nat := n / B ^ i % B
theorem lb_lt (n i : Nat) : lb n i < B := Nat.mod_lt _ B_pos
theorem lb_zero (n : Nat) : lb n 0 = n % B := by simp [lb]

/-- The cells of a number of k limbs. -/
def wc (k n : Nat) : Array Value := (Array.range k).map fun i => .int .u64 (lb n i : Nat)
@[simp] theorem wc_size (k n : Nat) : (wc k n).size = k := by simp [wc]
theorem wc_get (k n i : Nat) (h : i < k) : (wc k n)[i]? = some (.int .u64 (lb n i : Nat)) := by simp [wc, h]
/-- The value of a number of 8 limbs. -/
def W (n : Nat) : Value := .agg (wc 8 n)
theorem W_cells (n : Nat) : (W n).cells = wc 8 n := rfl
theorem wc_one (k n : Nat) : (wc k n).all (·.oneCell') = true := by
  rw [Array.all_eq_true]
  intro i hi
  have hi' : i < k := by simpa using hi
  have h := wc_get k n i hi'
  rw [Array.getElem?_eq_getElem hi] at h
  rw [Option.some.inj h]
  rfl

theorem lb_split (n k : Nat) : n % B ^ (k + 1) = n % B ^ k + lb n k * B ^ k := by
  unfold lb
  rw [Nat.pow_succ, Nat.mod_mul, Nat.mul_comm (n / B ^ k % B)]

/-- A number of so many limbs, and what is put at a place where there was nothing. -/
theorem lb_add_at (n d k i : Nat) (hn : n < B ^ k) (hd : d < B) : lb (n + d * B ^ k) i = if i = k then d else lb n i := by
  unfold lb
  rcases Nat.lt_trichotomy i k with h | h | h
  · rw [if_neg (by omega)]
    have e : B ^ k = B ^ i * (B * B ^ (k - i - 1)) := by
      rw [← Nat.pow_succ', ← Nat.pow_add]; congr 1; omega
    rw [e, show n + d * (B ^ i * (B * B ^ (k - i - 1))) = n + B ^ i * (B * (d * B ^ (k - i - 1))) by
      rw [Nat.mul_left_comm, Nat.mul_left_comm d], Nat.add_mul_div_left _ _ (Bp_pos i), Nat.add_mul_mod_self_left]
  · subst h
    rw [if_pos rfl, Nat.add_mul_div_right _ _ (Bp_pos i), Nat.div_eq_of_lt hn, Nat.zero_add, Nat.mod_eq_of_lt hd]
  · rw [if_neg (by omega)]
    have h1 : n + d * B ^ k < B ^ (k + 1) := by
      rw [Nat.pow_succ, Nat.mul_comm (B ^ k)]
      calc n + d * B ^ k < B ^ k + d * B ^ k := by omega
        _ = (d + 1) * B ^ k := by rw [Nat.add_mul, Nat.one_mul, Nat.add_comm]
        _ ≤ B * B ^ k := Nat.mul_le_mul_right _ hd
    have h2 : B ^ (k + 1) ≤ B ^ i := Nat.pow_le_pow_right B_pos h
    have h3 : B ^ k ≤ B ^ i := Nat.pow_le_pow_right B_pos (by omega)
    rw [Nat.div_eq_of_lt (by omega), Nat.div_eq_of_lt (by omega)]

theorem wc_set (k n d j : Nat) (hn : n < B ^ j) (hd : d < B) : (wc k n).setIfInBounds j (.int .u64 (d : Nat)) = wc k (n + d * B ^ j) := by
  apply Array.ext_getElem?
  intro i
  rw [Array.getElem?_setIfInBounds]
  by_cases hk : i < k
  · rw [wc_get k _ i hk, wc_get k _ i hk, lb_add_at n d j i hn hd, wc_size]
    by_cases h : j = i
    · subst h; simp [hk]
    · rw [if_neg h, if_neg (by omega)]
  · have e1 : (wc k n)[i]? = none := Array.getElem?_eq_none (by simp; omega)
    have e2 : (wc k (n + d * B ^ j))[i]? = none := Array.getElem?_eq_none (by simp; omega)
    rw [e1, e2, wc_size]
    split
    · rename_i h; subst h; rw [if_neg hk]
    · rfl

/-- The limbs of a number tell it. -/
theorem lb_inj {k : Nat} : ∀ {n m : Nat}, (∀ i, i < k → lb n i = lb m i) → n % B ^ k = m % B ^ k := by
  induction k with
  | zero => intro n m _; simp [Nat.mod_one]
  | succ k ih =>
    intro n m h
    rw [lb_split, lb_split, ih (fun i hi => h i (by omega)), h k (by omega)]

theorem lb_lt_of {n i k : Nat} (h : n < B ^ k) (hi : k ≤ i) : lb n i = 0 := by
  unfold lb
  rw [Nat.div_eq_of_lt (Nat.lt_of_lt_of_le h (Nat.pow_le_pow_right B_pos hi))]
  rfl

theorem W_zero : W 0 = .agg #[.int .u64 0, .int .u64 0, .int .u64 0, .int .u64 0, .int .u64 0, .int .u64 0, .int .u64 0, .int .u64 0] := by kernel_rfl

/-- How many limbs, from place o on, of at most so many, till only noughts follow. -/
def tl (n o : Nat) : Nat → Nat
  | 0 => 0
  | k + 1 => if lb n (o + k) = 0 then tl n o k else k + 1
theorem tl_le (n o : Nat) : ∀ k, tl n o k ≤ k
  | 0 => by simp [tl]
  | k + 1 => by unfold tl; split; (have := tl_le n o k; omega); omega

theorem lb_part (n o len i : Nat) (h : i < len) : lb (n / B ^ o % B ^ len) i = lb n (o + i) := by
  unfold lb
  have e : B ^ len = B ^ i * B ^ (len - i) := by rw [← Nat.pow_add]; congr 1; omega
  rw [e, Nat.mod_mul_right_div_self, Nat.div_div_eq_div_mul, ← Nat.pow_add, Nat.mod_mod_of_dvd]
  exact ⟨B ^ (len - i - 1), by rw [← Nat.pow_succ']; congr 1; omega⟩

/-- How many binary digits. -/
abbrev bl (n : Nat) : Nat := Go.bitLen n
theorem bl_zero : bl 0 = 0 := rfl
theorem bl_spec (n : Nat) : n < 2 ^ bl n ∧ (n ≠ 0 → 2 ^ (bl n - 1) ≤ n) := bitLen_spec n
theorem bl_pos {n : Nat} (h : n ≠ 0) : 0 < bl n := by unfold bl bitLen; rw [if_neg h]; omega
theorem bl_le {n k : Nat} : bl n ≤ k ↔ n < 2 ^ k := by
  constructor
  · intro h
    exact Nat.lt_of_lt_of_le (bl_spec n).1 (Nat.pow_le_pow_right (by omega) h)
  · intro h
    by_cases h0 : n = 0
    · subst h0; simp [bl, bitLen]
    · have h1 := (bl_spec n).2 h0
      have h2 := bl_pos h0
      have : 2 ^ (bl n - 1) < 2 ^ k := by omega
      have := (Nat.pow_lt_pow_iff_right (a := 2) (by omega)).1 this
      omega
theorem bl_lt (n k : Nat) (h : n < 2 ^ k) : bl n ≤ k := bl_le.2 h
theorem bl_shift (n b : Nat) (h : n / 2 ^ b ≠ 0) : bl n = b + bl (n / 2 ^ b) := bitLen_shift n b h

theorem lib_aux : ∀ (f x : Nat), x < 2 ^ f → Lib.bitLenAux f x = bl x
  | 0, x, h => by
    have : x = 0 := by simpa using h
    subst this; rfl
  | f + 1, x, h => by
    simp only [Lib.bitLenAux]
    by_cases h0 : x = 0
    · subst h0; rfl
    · rw [if_neg h0, lib_aux f (x / 2) (by rw [Nat.pow_succ] at h; omega)]
      by_cases h1 : x / 2 = 0
      · have : x = 1 := by omega
        subst this; rfl
      · have := bl_shift x 1 (by simpa using h1)
        simpa using this.symm
theorem lib_bitLen (x : Nat) (h : x < B) : Lib.bitLen x = bl x := lib_aux 64 x h

/-- What tl tells of the number of digits. -/
theorem bl_tl (n o : Nat) : ∀ len, bl (n / B ^ o % B ^ len) = if tl n o len = 0 then 0 else 64 * (tl n o len - 1) + bl (lb n (o + (tl n o len - 1)))
  | 0 => by simp [tl, Nat.mod_one, bl_zero]
  | len + 1 => by
    have e := lb_split (n / B ^ o) len
    have e2 : lb (n / B ^ o) len = lb n (o + len) := by unfold lb; rw [Nat.div_div_eq_div_mul, ← Nat.pow_add]
    rw [e2] at e
    unfold tl
    by_cases h : lb n (o + len) = 0
    · rw [if_pos h, e, h, Nat.zero_mul, Nat.add_zero]
      exact bl_tl n o len
    · rw [if_neg h, if_neg (by omega), Nat.add_sub_cancel]
      have hlt : n / B ^ o % B ^ len < B ^ len := Nat.mod_lt _ (Bp_pos len)
      have hp : B ^ len = 2 ^ (64 * len) := by unfold B; rw [← Nat.pow_mul]
      have hdiv : n / B ^ o % B ^ (len + 1) / 2 ^ (64 * len) = lb n (o + len) := by
        rw [e, ← hp, Nat.add_mul_div_right _ _ (Bp_pos len), Nat.div_eq_of_lt hlt, Nat.zero_add]
      rw [bl_shift _ (64 * len) (by rw [hdiv]; exact h), hdiv]

theorem wc_1 (x : Nat) (hx : x < B) : #[Value.int .u64 (x : Nat)] = wc 1 x := by
  have := wc_get 1 x 0 (by omega)
  rw [lb_zero, Nat.mod_eq_of_lt hx] at this
  apply Array.ext_getElem?
  intro i
  by_cases h : i = 0
  · subst h; rw [this]; rfl
  · rw [Array.getElem?_eq_none (by simp; omega), Array.getElem?_eq_none (by simp; omega)]
theorem wc_2 (x y : Nat) (hx : x < B) (hy : y < B) : #[Value.int .u64 (x : Nat), Value.int .u64 (y : Nat)] = wc 2 (x + y * B) := by
  have h := lb_add_at x y 1 
  rw [Nat.pow_one] at h
  have h0 := wc_get 2 (x + y * B) 0 (by omega)
  have h1 := wc_get 2 (x + y * B) 1 (by omega)
  rw [h 0 hx hy, if_neg (by omega), lb_zero, Nat.mod_eq_of_lt hx] at h0
  rw [h 1 hx hy, if_pos rfl] at h1
  apply Array.ext_getElem?
  intro i
  by_cases e : i = 0
  · subst e; rw [h0]; rfl
  · by_cases e' : i = 1
    · subst e'; rw [h1]; rfl
    · rw [Array.getElem?_eq_none (by simp; omega), Array.getElem?_eq_none (by simp; omega)]

theorem cut_len (k n so m : Nat) (hk : so + m ≤ k) : (((wc k n).toList.drop so).take m).length = m := by simp; omega
theorem cut_get (k n so m : Nat) (j : Nat) (v : Value) (h : (((wc k n).toList.drop so).take m)[j]? = some v) : (wc k n)[so + j]? = some v := by
  rw [List.getElem?_take] at h
  split at h
  · rw [List.getElem?_drop, Array.getElem?_toList] at h; exact h
  · cases h
theorem cut_one (k n so m : Nat) : ∀ v ∈ ((wc k n).toList.drop so).take m, v.oneCell' = true := by
  intro v hv
  have h := wc_one k n
  rw [Array.all_eq_true_iff_forall_mem] at h
  exact h v (by simpa using List.mem_of_mem_drop (List.mem_of_mem_take hv))
/-- What a copy of limbs over a row of noughts makes. -/
theorem wc_copy (k n so m : Nat) (hm : m ≤ 8) (hk : so + m ≤ k) :
    wc 8 (n / B ^ so % B ^ m) = ((wc 8 0).toList.take 0 ++ ((wc k n).toList.drop so).take m ++ (wc 8 0).toList.drop (0 + (((wc k n).toList.drop so).take m).length)).toArray := by
  have hl : (((wc k n).toList.drop so).take m).length = m := by simp; omega
  apply Array.ext_getElem?
  intro i
  rw [hl]
  simp only [List.take_zero, List.nil_append, Nat.zero_add, List.getElem?_toArray]
  by_cases h : i < m
  · rw [List.getElem?_append_left (by omega), List.getElem?_take_of_lt h, List.getElem?_drop, wc_get 8 _ i (by omega), Array.getElem?_toList, wc_get k n (so + i) (by omega), lb_part n so m i h]
  · rw [List.getElem?_append_right (by omega), hl, List.getElem?_drop, Array.getElem?_toList, show m + (i - m) = i by omega]
    by_cases h8 : i < 8
    · rw [wc_get 8 _ i h8, wc_get 8 _ i h8, lb_lt_of (Nat.mod_lt _ (Bp_pos m)) (by omega), lb_lt_of (k := 0) (by simp) (by omega)]
    · rw [Array.getElem?_eq_none (by simp; omega), Array.getElem?_eq_none (by simp; omega)]

theorem u64_wrap (x : Nat) : IntKind.u64.wrap (x : Int) = ((x % B : Nat) : Int) := by
  have : IntKind.u64.wrap (x : Int) = (x : Int) % (2 ^ 64 : Int) := rfl
  rw [this, B_val]
  omega
theorem cast_pow2 (k : Nat) : (2 : Int) ^ k = ((2 ^ k : Nat) : Int) := by simp

theorem cast_bne0 (n : Nat) : ((n : Int) != 0) = decide (n ≠ 0) := by
  by_cases h : n = 0 <;> simp [h]
end Go.Proofs.YtoakmlopjeecoaaGreatDoor.Rd

namespace Go.Proofs.YtoakmlopjeecoaaGreatDoor.Rd
open Go Go.RowKit
set_option linter.unusedVariables false
set_option linter.unusedSimpArgs false
theorem tz3 : ZeroT Tryz.prog 3 #[.int .i64 0] := ZeroT.of (z := .int .i64 0) (by kernel_rfl) rfl
theorem tz24 : ZeroT Tryz.prog 24 (wc 2 0) := ZeroT.of (z := .agg (wc 2 0)) (by kernel_rfl) rfl
theorem tz26 : ZeroT Tryz.prog 26 #[.int .i64 0, .int .i64 0, .int .i64 0, .int .i64 0, .int .u64 0, .int .u64 0, .int .u64 0, .int .u64 0] := ZeroT.of (z := .agg #[.int .i64 0, .int .i64 0, .int .i64 0, .int .i64 0, .int .u64 0, .int .u64 0, .int .u64 0, .int .u64 0]) (by kernel_rfl) rfl
theorem tz36 : ZeroT Tryz.prog 36 #[.int .i64 0, .int .i64 0, .int .i64 0, .int .i64 0, .int .i64 0, .int .i64 0, .int .i64 0] := ZeroT.of (z := .agg #[.int .i64 0, .int .i64 0, .int .i64 0, .int .i64 0, .int .i64 0, .int .i64 0, .int .i64 0]) (by kernel_rfl) rfl
theorem tz41 : ZeroT Tryz.prog 41 #[.int .u64 0, .int .u64 0, .int .i64 0, .int .i64 0] := ZeroT.of (z := .agg #[.int .u64 0, .int .u64 0, .int .i64 0, .int .i64 0]) (by kernel_rfl) rfl
theorem tz104 : ZeroT Tryz.prog 104 #[.int .i64 0, .int .i64 0, .int .i64 0, .int .i64 0, .int .i64 0] := ZeroT.of (z := .agg #[.int .i64 0, .int .i64 0, .int .i64 0, .int .i64 0, .int .i64 0]) (by kernel_rfl) rfl
theorem tz109 : ZeroT Tryz.prog 109 (wc 8 0) := ZeroT.of (z := .agg (wc 8 0)) (by kernel_rfl) rfl
theorem tz125 : ZeroT Tryz.prog 125 #[.string ⟨#[]⟩, .int .i64 0, .int .i64 0, .int .i64 0] := ZeroT.of (z := .agg #[.string ⟨#[]⟩, .int .i64 0, .int .i64 0, .int .i64 0]) (by kernel_rfl) rfl
theorem ta24 : AggT Tryz.prog 24 2 := AggT.of (by kernel_rfl)
theorem ta26 : AggT Tryz.prog 26 8 := AggT.of (by kernel_rfl)
theorem ta34 : AggT Tryz.prog 34 5 := AggT.of (by kernel_rfl)
theorem ta36 : AggT Tryz.prog 36 7 := AggT.of (by kernel_rfl)
theorem ta41 : AggT Tryz.prog 41 4 := AggT.of (by kernel_rfl)
theorem ta104 : AggT Tryz.prog 104 5 := AggT.of (by kernel_rfl)
theorem ta109 : AggT Tryz.prog 109 8 := AggT.of (by kernel_rfl)
theorem ta125 : AggT Tryz.prog 125 4 := AggT.of (by kernel_rfl)
theorem tc3 : CellT Tryz.prog 3 := CellT.of (by kernel_rfl)
theorem tc4 : CellT Tryz.prog 4 := CellT.of (by kernel_rfl)
theorem tc9 : CellT Tryz.prog 9 := CellT.of (by kernel_rfl)
theorem tc22 : CellT Tryz.prog 22 := CellT.of (by kernel_rfl)
theorem tc28 : CellT Tryz.prog 28 := CellT.of (by kernel_rfl)
theorem tc56 : CellT Tryz.prog 56 := CellT.of (by kernel_rfl)
theorem tc82 : CellT Tryz.prog 82 := CellT.of (by kernel_rfl)
theorem ts27 : SliceT Tryz.prog 27 26 := by unfold SliceT; kernel_rfl
theorem ts30 : SliceT Tryz.prog 30 41 := by unfold SliceT; kernel_rfl
theorem ts128 : SliceT Tryz.prog 128 22 := by unfold SliceT; kernel_rfl
theorem ts169 : SliceT Tryz.prog 169 24 := by unfold SliceT; kernel_rfl
theorem tr34 : ArrT Tryz.prog 34 5 3 := by unfold ArrT; kernel_rfl
theorem tr109 : ArrT Tryz.prog 109 8 22 := by unfold ArrT; kernel_rfl
theorem te22 : ElemT Tryz.prog 22 1 (.int .u64 0) := ElemT.of (by kernel_rfl)
theorem te24 : ElemT Tryz.prog 24 2 (.agg #[.int .u64 0, .int .u64 0]) := ElemT.of (by kernel_rfl)
theorem te26 : ElemT Tryz.prog 26 8 (.agg #[.int .i64 0, .int .i64 0, .int .i64 0, .int .i64 0, .int .u64 0, .int .u64 0, .int .u64 0, .int .u64 0]) := ElemT.of (by kernel_rfl)
theorem te41 : ElemT Tryz.prog 41 4 (.agg #[.int .u64 0, .int .u64 0, .int .i64 0, .int .i64 0]) := ElemT.of (by kernel_rfl)
theorem gf5 : GoF Tryz.prog 5 := ⟨_, Tryz.func5, by kernel_rfl, by kernel_rfl⟩
theorem gf6 : GoF Tryz.prog 6 := ⟨_, Tryz.func6, by kernel_rfl, by kernel_rfl⟩
theorem gf7 : GoF Tryz.prog 7 := ⟨_, Tryz.func7, by kernel_rfl, by kernel_rfl⟩
theorem gf8 : GoF Tryz.prog 8 := ⟨_, Tryz.func8, by kernel_rfl, by kernel_rfl⟩
theorem gf9 : GoF Tryz.prog 9 := ⟨_, Tryz.func9, by kernel_rfl, by kernel_rfl⟩
theorem gf10 : GoF Tryz.prog 10 := ⟨_, Tryz.func10, by kernel_rfl, by kernel_rfl⟩
theorem gf11 : GoF Tryz.prog 11 := ⟨_, Tryz.func11, by kernel_rfl, by kernel_rfl⟩
theorem gf12 : GoF Tryz.prog 12 := ⟨_, Tryz.func12, by kernel_rfl, by kernel_rfl⟩
theorem gf14 : GoF Tryz.prog 14 := ⟨_, Tryz.func14, by kernel_rfl, by kernel_rfl⟩
theorem gf15 : GoF Tryz.prog 15 := ⟨_, Tryz.func15, by kernel_rfl, by kernel_rfl⟩
theorem gf16 : GoF Tryz.prog 16 := ⟨_, Tryz.func16, by kernel_rfl, by kernel_rfl⟩
theorem gf17 : GoF Tryz.prog 17 := ⟨_, Tryz.func17, by kernel_rfl, by kernel_rfl⟩
theorem gf20 : GoF Tryz.prog 20 := ⟨_, Tryz.func20, by kernel_rfl, by kernel_rfl⟩
theorem gf21 : GoF Tryz.prog 21 := ⟨_, Tryz.func21, by kernel_rfl, by kernel_rfl⟩
theorem gf22 : GoF Tryz.prog 22 := ⟨_, Tryz.func22, by kernel_rfl, by kernel_rfl⟩
theorem gf23 : GoF Tryz.prog 23 := ⟨_, Tryz.func23, by kernel_rfl, by kernel_rfl⟩
theorem gf24 : GoF Tryz.prog 24 := ⟨_, Tryz.func24, by kernel_rfl, by kernel_rfl⟩
theorem gf25 : GoF Tryz.prog 25 := ⟨_, Tryz.func25, by kernel_rfl, by kernel_rfl⟩
theorem gf29 : GoF Tryz.prog 29 := ⟨_, Tryz.func29, by kernel_rfl, by kernel_rfl⟩
theorem gf30 : GoF Tryz.prog 30 := ⟨_, Tryz.func30, by kernel_rfl, by kernel_rfl⟩
theorem gf31 : GoF Tryz.prog 31 := ⟨_, Tryz.func31, by kernel_rfl, by kernel_rfl⟩
theorem gf32 : GoF Tryz.prog 32 := ⟨_, Tryz.func32, by kernel_rfl, by kernel_rfl⟩
theorem gf33 : GoF Tryz.prog 33 := ⟨_, Tryz.func33, by kernel_rfl, by kernel_rfl⟩
theorem gf39 : GoF Tryz.prog 39 := ⟨_, Tryz.func39, by kernel_rfl, by kernel_rfl⟩
theorem gf40 : GoF Tryz.prog 40 := ⟨_, Tryz.func40, by kernel_rfl, by kernel_rfl⟩
theorem gf41 : GoF Tryz.prog 41 := ⟨_, Tryz.func41, by kernel_rfl, by kernel_rfl⟩
theorem gf42 : GoF Tryz.prog 42 := ⟨_, Tryz.func42, by kernel_rfl, by kernel_rfl⟩
theorem gf43 : GoF Tryz.prog 43 := ⟨_, Tryz.func43, by kernel_rfl, by kernel_rfl⟩
theorem gf44 : GoF Tryz.prog 44 := ⟨_, Tryz.func44, by kernel_rfl, by kernel_rfl⟩
theorem gf52 : GoF Tryz.prog 52 := ⟨_, Tryz.func52, by kernel_rfl, by kernel_rfl⟩
theorem gf53 : GoF Tryz.prog 53 := ⟨_, Tryz.func53, by kernel_rfl, by kernel_rfl⟩
theorem gf54 : GoF Tryz.prog 54 := ⟨_, Tryz.func54, by kernel_rfl, by kernel_rfl⟩
theorem gf55 : GoF Tryz.prog 55 := ⟨_, Tryz.func55, by kernel_rfl, by kernel_rfl⟩
theorem gf56 : GoF Tryz.prog 56 := ⟨_, Tryz.func56, by kernel_rfl, by kernel_rfl⟩
theorem gf59 : GoF Tryz.prog 59 := ⟨_, Tryz.func59, by kernel_rfl, by kernel_rfl⟩
theorem gf77 : GoF Tryz.prog 77 := ⟨_, Tryz.func77, by kernel_rfl, by kernel_rfl⟩
theorem gf78 : GoF Tryz.prog 78 := ⟨_, Tryz.func78, by kernel_rfl, by kernel_rfl⟩
theorem gf79 : GoF Tryz.prog 79 := ⟨_, Tryz.func79, by kernel_rfl, by kernel_rfl⟩
theorem gf80 : GoF Tryz.prog 80 := ⟨_, Tryz.func80, by kernel_rfl, by kernel_rfl⟩
theorem gf81 : GoF Tryz.prog 81 := ⟨_, Tryz.func81, by kernel_rfl, by kernel_rfl⟩
theorem gf82 : GoF Tryz.prog 82 := ⟨_, Tryz.func82, by kernel_rfl, by kernel_rfl⟩
theorem gf89 : GoF Tryz.prog 89 := ⟨_, Tryz.func89, by kernel_rfl, by kernel_rfl⟩
theorem gf92 : GoF Tryz.prog 92 := ⟨_, Tryz.func92, by kernel_rfl, by kernel_rfl⟩
theorem gf93 : GoF Tryz.prog 93 := ⟨_, Tryz.func93, by kernel_rfl, by kernel_rfl⟩
theorem gf94 : GoF Tryz.prog 94 := ⟨_, Tryz.func94, by kernel_rfl, by kernel_rfl⟩
theorem gf99 : GoF Tryz.prog 99 := ⟨_, Tryz.func99, by kernel_rfl, by kernel_rfl⟩
theorem gf108 : GoF Tryz.prog 108 := ⟨_, Tryz.func108, by kernel_rfl, by kernel_rfl⟩
theorem gf120 : GoF Tryz.prog 120 := ⟨_, Tryz.func120, by kernel_rfl, by kernel_rfl⟩
theorem gf121 : GoF Tryz.prog 121 := ⟨_, Tryz.func121, by kernel_rfl, by kernel_rfl⟩
theorem gf122 : GoF Tryz.prog 122 := ⟨_, Tryz.func122, by kernel_rfl, by kernel_rfl⟩
theorem gf123 : GoF Tryz.prog 123 := ⟨_, Tryz.func123, by kernel_rfl, by kernel_rfl⟩
theorem gf124 : GoF Tryz.prog 124 := ⟨_, Tryz.func124, by kernel_rfl, by kernel_rfl⟩
theorem gf125 : GoF Tryz.prog 125 := ⟨_, Tryz.func125, by kernel_rfl, by kernel_rfl⟩
theorem gf127 : GoF Tryz.prog 127 := ⟨_, Tryz.func127, by kernel_rfl, by kernel_rfl⟩
theorem gf135 : GoF Tryz.prog 135 := ⟨_, Tryz.func135, by kernel_rfl, by kernel_rfl⟩
theorem gf136 : GoF Tryz.prog 136 := ⟨_, Tryz.func136, by kernel_rfl, by kernel_rfl⟩
theorem gf137 : GoF Tryz.prog 137 := ⟨_, Tryz.func137, by kernel_rfl, by kernel_rfl⟩
theorem gf138 : GoF Tryz.prog 138 := ⟨_, Tryz.func138, by kernel_rfl, by kernel_rfl⟩
theorem gf147 : GoF Tryz.prog 147 := ⟨_, Tryz.func147, by kernel_rfl, by kernel_rfl⟩
theorem gf150 : GoF Tryz.prog 150 := ⟨_, Tryz.func150, by kernel_rfl, by kernel_rfl⟩
theorem gf151 : GoF Tryz.prog 151 := ⟨_, Tryz.func151, by kernel_rfl, by kernel_rfl⟩
theorem gf152 : GoF Tryz.prog 152 := ⟨_, Tryz.func152, by kernel_rfl, by kernel_rfl⟩
theorem gf153 : GoF Tryz.prog 153 := ⟨_, Tryz.func153, by kernel_rfl, by kernel_rfl⟩
theorem gf166 : GoF Tryz.prog 166 := ⟨_, Tryz.func166, by kernel_rfl, by kernel_rfl⟩
theorem gf168 : GoF Tryz.prog 168 := ⟨_, Tryz.func168, by kernel_rfl, by kernel_rfl⟩
theorem gf169 : GoF Tryz.prog 169 := ⟨_, Tryz.func169, by kernel_rfl, by kernel_rfl⟩
end Go.Proofs.YtoakmlopjeecoaaGreatDoor.Rd

namespace Go.Proofs.YtoakmlopjeecoaaGreatDoor.Rd
open Go Go.RowKit
set_option linter.unusedVariables false
set_option linter.unusedSimpArgs false
set_option maxRecDepth 100000

theorem add64 (x y c : Nat) (hx : x < B) (hy : y < B) (hc : c ≤ 1) (w : World) :
    (callFunc 170 #[.int .u64 x, .int .u64 y, .int .u64 c]).run Tryz.prog w = .ok (.value (.tuple #[.int .u64 ((x + y + c) % B : Nat), .int .u64 ((x + y + c) / B : Nat)])) w := by
  rw [run_callFunc_extern Tryz.func170 (by kernel_rfl) (by kernel_rfl) (by kernel_rfl) (e := add64Entry) (by kernel_rfl), run_add64 x y c (by omega) (by omega) (by omega) (by omega)]
  simp only [Result.andThen, B_val]
  congr 5 <;> omega

theorem limb_one (n : Nat) : Gives Tryz.prog 168 #[.int .u64 n] (.int .u64 ((if n = 0 then 0 else 1 : Nat) : Int)) := by
  intro w0
  by_cases h : n = 0
  · subst h
    go_enter Tryz.func168, Tryz.ntmps168
    go_wp2
    go_ret
    exact ⟨rfl, .refl _ _⟩
  · have h1 : ((n : Int) != 0) = true := by simpa using h
    go_enter Tryz.func168, Tryz.ntmps168
    go_wp2
    go_ret
    exact ⟨by simp [h], .refl _ _⟩

theorem limb_Add (x y c : Nat) (hx : x < B) (hy : y < B) (hc : c ≤ 1) :
    Gives Tryz.prog 153 #[.int .u64 x, .int .u64 y, .int .u64 c] (.tuple #[.int .u64 ((x + y + c) % B : Nat), .int .u64 ((x + y + c) / B : Nat)]) := by
  intro w0
  have e1 : (if c = 0 then 0 else 1) = c := by split <;> omega
  have hone := limb_one c
  rw [e1] at hone
  clear e1
  have hst := St.start [] w0
  go_enter Tryz.func153, Tryz.ntmps153
  go_wp2_with ((first | (refine kf gf168 hst (hone) rfl rfl rfl rfl ?_; clear hst; intro w hst) | (refine kx (add64 x y c hx hy hc _) rfl rfl rfl rfl ?_)); try simp only [pz, pn, sz, sc])
  go_ret2
  exact ⟨rfl, hst.keeps⟩

/-- Limb by limb: what comes of k limbs, and what is carried. -/
def limbs (f : Nat → Nat → Nat → Nat × Nat) (a b : Nat) : Nat → Nat × Nat
  | 0 => (0, 0)
  | k + 1 => ((limbs f a b k).1 + (f (lb a k) (lb b k) (limbs f a b k).2).1 * B ^ k, (f (lb a k) (lb b k) (limbs f a b k).2).2)

theorem limbs_lt {f : Nat → Nat → Nat → Nat × Nat} (hf : ∀ x y c, x < B → y < B → c ≤ 1 → (f x y c).1 < B ∧ (f x y c).2 ≤ 1) (a b : Nat) : ∀ k, (limbs f a b k).1 < B ^ k ∧ (limbs f a b k).2 ≤ 1
  | 0 => by simp [limbs]
  | k + 1 => by
    obtain ⟨h1, h2⟩ := limbs_lt hf a b k
    obtain ⟨h3, h4⟩ := hf (lb a k) (lb b k) _ (lb_lt _ _) (lb_lt _ _) h2
    refine ⟨?_, h4⟩
    simp only [limbs]
    have := Nat.mul_le_mul_right (B ^ k) (Nat.le_sub_one_of_lt h3)
    rw [Nat.sub_mul, Nat.one_mul] at this
    rw [Nat.pow_succ, Nat.mul_comm (B ^ k) B]
    have h5 : B ^ k ≤ B * B ^ k := Nat.le_mul_of_pos_left _ B_pos
    omega

set_option maxHeartbeats 2000000 in
theorem wide_both (g : FuncId) (hg : GoF Tryz.prog g) (f : Nat → Nat → Nat → Nat × Nat) (hf : ∀ x y c, x < B → y < B → c ≤ 1 → (f x y c).1 < B ∧ (f x y c).2 ≤ 1)
    (hgf : ∀ x y c, x < B → y < B → c ≤ 1 → Gives Tryz.prog g #[.int .u64 (x : Nat), .int .u64 (y : Nat), .int .u64 (c : Nat)] (.tuple #[.int .u64 ((f x y c).1 : Nat), .int .u64 ((f x y c).2 : Nat)]))
    (a b : Nat) : Gives Tryz.prog 150 #[W a, W b, .func (.func g) #[] #[]] (.tuple #[W (limbs f a b 8).1, .bool (decide ((limbs f a b 8).2 ≠ 0))]) := by
  intro w0
  have hst := St.start [] w0
  go_enter Tryz.func150, Tryz.ntmps150
  go_wp2_with ((first | (refine kb 3 hst rfl rfl ?_; clear hst; intro b3 w hb3 hst) | (refine kb 4 hst rfl rfl ?_; clear hst; intro b4 w hb4 hst) | (refine ka 6 hst tz109 rfl rfl ?_; clear hst; intro b6 w hb6 hst) | (refine ka 8 hst tz109 rfl rfl ?_; clear hst; intro b8 w hb8 hst)); try simp only [pz, pn, sz, sc])
  go_loopw [9, 11] (fun c i wr => ∃ k : Nat, k ≤ 8 ∧ i = .int .i64 k ∧ c = .int .u64 ((limbs f a b k).2 : Nat) ∧
    St w0 [] [(b8, .cells (wc 8 (limbs f a b k).1) 109), (b6, .cells (wc 8 0) 109), (b4, .cells (wc 8 b) 109), (b3, .cells (wc 8 a) 109)] wr) (fun _ i _ => 8 - (intOf i).toNat)
  case atStart => exact ⟨0, by omega, rfl, rfl, hst⟩
  case round =>
    clear hst
    obtain ⟨k, hk, rfl, rfl, hst⟩ := hrel
    obtain ⟨hl1, hl2⟩ := limbs_lt hf a b k
    by_cases hlt : k < 8
    · have hi0 : (0 : Int) ≤ (k : Int) := by omega
      have hi8 : (k : Int) < 8 := by omega
      have hc := hgf (lb a k) (lb b k) _ (lb_lt _ _) (lb_lt _ _) hl2
      go_wp2_with fail
      refine wp_region_T 14  hst (by kernel_rfl) ?_; clear hst; intro w hst; (try simp only [List.length_cons, List.length_nil, Nat.reduceAdd, Array.replicate_succ, Array.replicate_zero, List.push_toArray, List.nil_append, List.cons_append])
      refine r0 0 ?_; simp only [pz, pn, sz, sc]
      refine r0 1 ?_; simp only [pz, pn, sz, sc]
      refine r0 2 ?_; simp only [pz, pn, sz, sc]
      refine r0 3 ?_; simp only [pz, pn, sz, sc]
      refine r0 5 ?_; simp only [pz, pn, sz, sc]
      refine r0 6 ?_; simp only [pz, pn, sz, sc]
      refine r0 8 ?_; simp only [pz, pn, sz, sc]
      refine rl 4 rfl ?_ (ylC tc22); simp only [pz, pn, sz, sc]
      refine rl 7 rfl ?_ (ylC tc22); simp only [pz, pn, sz, sc]
      refine r1 9 ?_; (refine kf hg hst (hc) rfl rfl rfl rfl ?_; clear hst; intro w hst); (try simp only [pz, pn, sz, sc]); refine re ?_
      refine r0 10 ?_; simp only [pz, pn, sz, sc]
      refine r0 11 ?_; simp only [pz, pn, sz, sc]
      refine r0 12 ?_; simp only [pz, pn, sz, sc]
      refine r0 13 ?_; simp only [pz, pn, sz, sc]
      refine r1 14 ?_; (refine ks hst tc22 rfl rfl ?_; clear hst; intro w hst); (try simp only [pz, pn, sz, sc]); refine re ?_
      refine r0 15 ?_; simp only [pz, pn, sz, sc]
      refine rd_ ?_
      rw [wc_set _ _ _ _ hl1 (hf _ _ _ (lb_lt _ _) (lb_lt _ _) hl2).1] at hst
      go_wp2_with fail
      go_roundw
      case rel => exact ⟨k + 1, by omega, by go_num, rfl, hst⟩
      case measure => simp [intOf]; omega
    · have : k = 8 := by omega
      subst this
      go_wp2_with ((first | (refine kl hst ta109 rfl ?_) | (refine kt hst ta109 rfl rfl ?_; clear hst; intro w hst)); try simp only [pz, pn, sz, sc])
      refine bp_ct rfl rfl (la hst ta109) (by rfl) ⟨?_, hst.keeps⟩
      rw [cast_bne0]; rfl

/-- What comes of k limbs added. -/
theorem limbs_add (a b : Nat) : ∀ k, (limbs (fun x y c => ((x + y + c) % B, (x + y + c) / B)) a b k).1 + (limbs (fun x y c => ((x + y + c) % B, (x + y + c) / B)) a b k).2 * B ^ k = a % B ^ k + b % B ^ k
  | 0 => by simp [limbs, Nat.mod_one]
  | k + 1 => by
    have ih := limbs_add a b k
    simp only [limbs]
    rw [lb_split a k, lb_split b k]
    generalize hL : limbs (fun x y c => ((x + y + c) % B, (x + y + c) / B)) a b k = r at ih ⊢
    have e := Nat.div_add_mod (lb a k + lb b k + r.2) B
    generalize (lb a k + lb b k + r.2) / B = q at e ⊢
    generalize (lb a k + lb b k + r.2) % B = m at e ⊢
    have : q * B ^ (k + 1) = B * q * B ^ k := by rw [Nat.pow_succ', ← Nat.mul_assoc, Nat.mul_comm q B]
    rw [this]
    have e2 : (B * q + m) * B ^ k = (lb a k + lb b k + r.2) * B ^ k := by rw [e]
    rw [Nat.add_mul, Nat.add_mul, Nat.add_mul] at e2
    omega

theorem add_lt (x y c : Nat) (hx : x < B) (hy : y < B) (hc : c ≤ 1) : (x + y + c) % B < B ∧ (x + y + c) / B ≤ 1 := by
  refine ⟨Nat.mod_lt _ B_pos, ?_⟩
  have : (x + y + c) / B < 2 := by rw [Nat.div_lt_iff_lt_mul B_pos]; omega
  omega

theorem limbs_add8 (a b : Nat) (ha : a < M) (hb : b < M) :
    (limbs (fun x y c => ((x + y + c) % B, (x + y + c) / B)) a b 8).1 = (a + b) % M ∧ decide ((limbs (fun x y c => ((x + y + c) % B, (x + y + c) / B)) a b 8).2 ≠ 0) = decide (M ≤ a + b) := by
  have h := limbs_add a b 8
  have hl := (limbs_lt (f := fun x y c => ((x + y + c) % B, (x + y + c) / B)) add_lt a b 8)
  rw [← M_eq] at h hl
  rw [Nat.mod_eq_of_lt ha, Nat.mod_eq_of_lt hb] at h
  obtain ⟨h1, h2⟩ := hl
  generalize limbs (fun x y c => ((x + y + c) % B, (x + y + c) / B)) a b 8 = r at *
  refine ⟨?_, ?_⟩
  · rw [← h, Nat.add_mul_mod_self_right, Nat.mod_eq_of_lt h1]
  · have : r.2 = 0 ∨ r.2 = 1 := by omega
    rcases this with e | e <;> rw [e] at h ⊢ <;> simp <;> omega

theorem wide_Add (a b : Nat) (ha : a < M) (hb : b < M) : Gives Tryz.prog 124 #[W a, W b] (.tuple #[W ((a + b) % M), .bool (decide (M ≤ a + b))]) := by
  intro w0
  have hst := St.start [] w0
  have hboth := wide_both 153 gf153 (fun x y c => ((x + y + c) % B, (x + y + c) / B)) add_lt limb_Add a b
  rw [(limbs_add8 a b ha hb).1, (limbs_add8 a b ha hb).2] at hboth
  go_enter Tryz.func124, Tryz.ntmps124
  go_wp2_with ((first | (refine kf gf150 hst (hboth) rfl rfl rfl rfl ?_; clear hst; intro w hst) | (refine kb 2 hst rfl rfl ?_; clear hst; intro b2 w hb2 hst) | (refine kb 3 hst rfl rfl ?_; clear hst; intro b3 w hb3 hst) | (refine ka 4 hst tz109 rfl rfl ?_; clear hst; intro b4 w hb4 hst) | (refine kl hst ta109 rfl ?_) | (refine kt hst ta109 rfl rfl ?_; clear hst; intro w hst)); try simp only [pz, pn, sz, sc])
  refine bp_ct rfl rfl (la hst ta109) (by rfl) ⟨?_, hst.keeps⟩
  rfl

end Go.Proofs.YtoakmlopjeecoaaGreatDoor.Rd

namespace Go.Proofs.YtoakmlopjeecoaaGreatDoor.Rd
open Go Go.RowKit
set_option linter.unusedVariables false
set_option linter.unusedSimpArgs false
set_option maxRecDepth 100000

set_option maxHeartbeats 1000000 in
theorem limb_trim (b o len cap k n : Nat) (E : TypeId) (fr : Nat × Nat) (hk : o + len ≤ k) (hcap : len ≤ cap) (hm : len ≤ 9223372036854775807) (w0 : World) (hb : w0.heap[b]? = some (.cells (wc k n) E fr)) :
    GivesAt Tryz.prog 77 #[.slice (some ⟨b, o, none⟩) len cap] (.slice (some ⟨b, o, none⟩) (tl n o len) (tl n o len)) w0 := by
  have hst := (St.start [] w0).add hb (by simp)
  clear hb
  go_enter Tryz.func77, Tryz.ntmps77
  go_wp2_with fail
  go_loopw [3] (fun j wr => ∃ i : Nat, i ≤ len ∧ j = .int .i64 i ∧ tl n o i = tl n o len ∧ St w0 [] [(b, .cells (wc k n) E fr)] wr) (fun j _ => (intOf j).toNat)
  case atStart => exact ⟨len, by omega, rfl, rfl, hst⟩
  case round =>
    clear hst
    obtain ⟨i, hi, rfl, ht, hst⟩ := hrel
    by_cases h0 : 0 < i
    · obtain ⟨j, rfl⟩ : ∃ j, i = j + 1 := ⟨i - 1, by omega⟩
      have e1 : ((j + 1 : Nat) : Int) = (j : Int) + 1 := by omega
      rw [e1]
      have h1 : (0 : Int) ≤ (j : Int) := by omega
      have h3 : (j : Int) < (len : Int) := by omega
      by_cases hz : lb n (o + j) = 0
      · have hz' : ((lb n (o + j) : Int) == 0) = true := by simp [hz]
        go_wp2_with ((first | (refine wl_guard (by rfl) ?_) | (refine kc hst tc22 rfl ?_)); try simp only [pz, pn, sz, sc])
        go_roundw
        case rel => exact ⟨j, by omega, by go_num, by rw [← ht]; simp [tl, hz], hst⟩
        case measure => simp [intOf]
      · have hz' : ((lb n (o + j) : Int) == 0) = false := by simp [hz]
        have e : tl n o len = j + 1 := by rw [← ht]; simp [tl, hz]
        go_wp2_with ((first | (refine wl_guard (by rfl) ?_) | (refine kc hst tc22 rfl ?_)); try simp only [pz, pn, sz, sc])
        refine bp_t rfl rfl (by rfl) ⟨?_, hst.keeps⟩
        rw [e]; rfl
    · have : i = 0 := by omega
      subst this
      have e : tl n o len = 0 := by rw [← ht]; rfl
      go_wp2_with fail
      refine bp_t rfl rfl (by rfl) ⟨?_, hst.keeps⟩
      rw [e]; rfl

theorem bits_Len64 (x : Nat) (hx : x < B) : Gives Tryz.prog 78 #[.int .u64 x] (.int .i64 (bl x : Nat)) := by
  have h := Gives.of_same fun w => Tryz.bits_Len64 (x : Int) w (by omega) (by rw [B_val] at hx; omega)
  rw [Int.toNat_natCast, lib_bitLen x hx] at h
  exact h

set_option maxHeartbeats 1000000 in
theorem limb_Len (b o len cap k n : Nat) (E : TypeId) (fr : Nat × Nat) (hk : o + len ≤ k) (hcap : len ≤ cap) (hm : len ≤ 100000) (w0 : World) (hb : w0.heap[b]? = some (.cells (wc k n) E fr)) :
    GivesAt Tryz.prog 52 #[.slice (some ⟨b, o, none⟩) len cap] (.int .i64 (bl (n / B ^ o % B ^ len) : Nat)) w0 := by
  have hst := (St.start [] w0).add hb (by simp)
  have htl := tl_le n o len
  have htrim := limb_trim b o len cap k n E fr hk hcap (by omega)
  have hlen := bits_Len64 (lb n (o + (tl n o len - 1))) (lb_lt _ _)
  have hbl := bl_tl n o len
  clear hb
  by_cases h0 : tl n o len = 0
  · have h0' : ((tl n o len : Int) == 0) = true := by simp [h0]
    have e : bl (n / B ^ o % B ^ len) = 0 := by rw [hbl, if_pos h0]
    rw [e]
    clear e hbl hlen htl
    go_enter Tryz.func52, Tryz.ntmps52
    go_wp2_with ((first | (refine kg gf77 hst (fun w hst => htrim w (hst.own _ _ (by simp))) rfl rfl rfl rfl ?_; clear hst; intro w hst)); try simp only [pz, pn, sz, sc])
    refine bp_t rfl rfl (by rfl) ⟨?_, hst.keeps⟩
    rfl
  · have h0' : ((tl n o len : Int) == 0) = false := by simp [h0]
    obtain ⟨t, ht⟩ : ∃ t, tl n o len = t + 1 := ⟨tl n o len - 1, by omega⟩
    have e : bl (n / B ^ o % B ^ len) = 64 * t + bl (lb n (o + t)) := by rw [hbl, if_neg h0, ht]; rfl
    have hb2 := bl_lt (lb n (o + t)) 64 (lb_lt _ _)
    rw [e]
    rw [ht] at htrim h0' hlen
    simp only [Nat.add_sub_cancel] at hlen
    have e1 : ((t + 1 : Nat) : Int) = (t : Int) + 1 := by omega
    rw [e1] at h0'
    have htl' : t < 100000 := by omega
    have hot : o + t < k := by omega
    clear hbl e h0 ht e1 htl
    have h1 : (0 : Int) ≤ (t : Int) := by omega
    have h3 : (t : Int) < (t : Int) + 1 := by omega
    go_enter Tryz.func52, Tryz.ntmps52
    go_wp2_with ((first | (refine kg gf77 hst (fun w hst => htrim w (hst.own _ _ (by simp))) rfl rfl rfl rfl ?_; clear hst; intro w hst) | (refine kf gf78 hst (hlen) rfl rfl rfl rfl ?_; clear hst; intro w hst) | (refine kc hst tc22 rfl ?_)); try simp only [pz, pn, sz, sc])
    refine bp_t rfl rfl (by rfl) ⟨?_, hst.keeps⟩
    go_num

set_option maxHeartbeats 1000000 in
theorem wide_Of (b o len cap k n : Nat) (E : TypeId) (fr : Nat × Nat) (hk : o + len ≤ k) (w0 : World) (hb : w0.heap[b]? = some (.cells (wc k n) E fr)) :
    GivesAt Tryz.prog 53 #[.slice (some ⟨b, o, none⟩) len cap] (W (n / B ^ o % B ^ (min len 8))) w0 := by
  have hst := (St.start [] w0).add hb (by simp)
  clear hb
  go_enter Tryz.func53, Tryz.ntmps53
  have hcl := cut_len k n o (min len 8) (by omega)
  have hcg := cut_get k n o (min len 8)
  have hc1 := cut_one k n o (min len 8)
  have hcw := wc_copy k n o (min len 8) (by omega) (by omega)
  generalize hcs : ((wc k n).toList.drop o).take (min len 8) = cs at hcl hcg hc1 hcw
  clear hcs
  have hcl' : Hid (cs.length = Nat.min len 8) := hcl
  have hcw' := Lib.hid hcw
  have hcg' := Lib.hid hcg
  clear hcl hcw hcg
  go_wp2_with ((first | (refine wl_copy (cs := cs) hst ts128 te22 rfl rfl (by rfl) (by rfl) (by repeat (first | exact List.Mem.head _ | refine List.Mem.tail _ ?_)) hcl'.out hcg'.out hc1 (by repeat (first | exact At.head _ | apply At.tail)) (by rw [hcl'.out, wc_size]; exact Nat.le_trans (by rw [Nat.zero_add]; exact Nat.min_le_right _ _) (Nat.le_refl 8)) hcw'.out (by first | exact Or.inl (by assumption) | (refine Or.inr ?_; simp)) ?_; clear hst; intro w hst; (try simp only [pz, pn, sz, sc])) | (refine ka 2 hst tz109 rfl rfl ?_; clear hst; intro b2 w hb2 hst) | (refine ka 3 hst tz109 rfl rfl ?_; clear hst; intro b3 w hb3 hst) | (refine kl hst ta109 rfl ?_) | (refine kt hst ta109 rfl rfl ?_; clear hst; intro w hst)); try simp only [pz, pn, sz, sc])
  refine bp_c rfl rfl (la hst ta109) ⟨?_, hst.keeps⟩
  rfl

end Go.Proofs.YtoakmlopjeecoaaGreatDoor.Rd
