/- Ints as texts: plain laws, no program. -/
import Derived.Test.YtojjmcghcgidlaaDoorReM
import Derived.Lib.AtoiAll
import Derived.Lib.ItoaNum
import Derived.Lib.ItoaLen
namespace Go.Proofs.YtojjmcghcgidlaaDoor.Rd
open Go Go.RowKit
set_option linter.unusedVariables false
set_option linter.unusedSimpArgs false
set_option maxRecDepth 100000

def sgn (l : List UInt8) : Bool := l.head? == some 45
def mag (l : List UInt8) : List UInt8 := if sgn l then l.tail else l
/-- The int of a text, and an error's number. -/
def pint (l : List UInt8) : Int × Nat :=
  if isPlain 10 (mag l) && !(sgn l && mag l == [48]) then
    (if sgn l then (if nv 10 (mag l) ≤ 9223372036854775808 then (-(nv 10 (mag l) : Int), 0) else (0, 4)) else (if nv 10 (mag l) < 9223372036854775808 then ((nv 10 (mag l) : Int), 0) else (0, 4)))
  else (0, 2)

def nvA (a : Nat) (l : List UInt8) : Nat := l.foldl (fun a c => a * 10 + val c.toNat) a
theorem nvA_zero (l : List UInt8) : nvA 0 l = nv 10 l := rfl
theorem nvA_cons (a : Nat) (c : UInt8) (l : List UInt8) : nvA a (c :: l) = nvA (a * 10 + val c.toNat) l := rfl
theorem nvA_ge : ∀ (l : List UInt8) (a : Nat), a * 10 ^ l.length ≤ nvA a l
  | [], a => by simp [nvA]
  | c :: l, a => by
    have ih := nvA_ge l (a * 10 + val c.toNat)
    rw [nvA_cons]
    refine Nat.le_trans ?_ ih
    rw [List.length_cons, Nat.pow_succ', ← Nat.mul_assoc]
    exact Nat.mul_le_mul_right _ (by omega)
theorem nvA_mono (l : List UInt8) (a : Nat) : a ≤ nvA a l := Nat.le_trans (Nat.le_mul_of_pos_right _ (Nat.pow_pos (by omega))) (nvA_ge l a)
theorem nvA_lt : ∀ (l : List UInt8) (a : Nat), (∀ c ∈ l, val c.toNat < 10) → nvA a l < (a + 1) * 10 ^ l.length
  | [], a, _ => by simp [nvA]
  | c :: l, a, h => by
    have ih := nvA_lt l (a * 10 + val c.toNat) (fun d hd => h d (List.mem_cons_of_mem _ hd))
    have hc := h c List.mem_cons_self
    rw [nvA_cons]
    refine Nat.lt_of_lt_of_le ih ?_
    rw [List.length_cons, Nat.pow_succ', ← Nat.mul_assoc]
    exact Nat.mul_le_mul_right _ (by omega)

theorem val_digit (c : Nat) (h : val c < 10) : 48 ≤ c ∧ c ≤ 57 ∧ val c = c - 48 := by
  unfold val at h ⊢
  split at h
  · rename_i h1; rw [if_pos h1]; omega
  · split at h <;> omega

theorem parse_all : ∀ (l : List UInt8) (a : Nat), (∀ c ∈ l, val c.toNat < 10) → a < 18446744073709551616 → Lib.parseUint10 a l = if nvA a l < 18446744073709551616 then .ok (nvA a l) else .range
  | [], a, _, ha => by
    simp only [Lib.parseUint10]
    rw [if_pos (show nvA a [] < _ from ha)]; rfl
  | c :: l, a, h, ha => by
    obtain ⟨h1, h2, h3⟩ := val_digit c.toNat (h c List.mem_cons_self)
    have ih := parse_all l (a * 10 + (c.toNat - 48)) (fun d hd => h d (List.mem_cons_of_mem _ hd))
    have hm := nvA_mono l (a * 10 + (c.toNat - 48))
    simp only [Lib.parseUint10]
    rw [if_pos ⟨h1, h2⟩, nvA_cons, h3]
    by_cases g1 : 1844674407370955162 ≤ a
    · rw [if_pos g1, if_neg (by omega)]
    · rw [if_neg g1]
      by_cases g2 : 18446744073709551616 ≤ a * 10 + (c.toNat - 48)
      · rw [if_pos g2, if_neg (by omega)]
      · rw [if_neg g2]
        exact ih (by omega)

theorem plain_digits {l : List UInt8} (h : isPlain 10 l = true) : (∀ c ∈ l, val c.toNat < 10) ∧ l ≠ [] := by
  simp only [isPlain, Bool.and_eq_true, List.all_eq_true, decide_eq_true_eq, bne_iff_ne] at h
  exact ⟨h.1.2, h.1.1⟩

theorem atoi_pint (l : List UInt8) (h : isPlain 10 (mag l) = true) (h2 : (sgn l && mag l == [48]) = false) : Lib.atoiAll l = if (pint l).2 = 0 then .ok (pint l).1 else .range := by
  obtain ⟨hd, hne⟩ := plain_digits h
  have hp := parse_all (mag l) 0 hd (by omega)
  rw [nvA_zero] at hp
  unfold pint
  rw [h, h2]
  rcases l with _ | ⟨c, r⟩
  · exact absurd rfl hne
  · cases hs : sgn (c :: r) with
    | true =>
      have hc : c = 45 := by simpa [sgn] using hs
      have hm : mag (c :: r) = r := by unfold mag; rw [hs]; rfl
      rw [hm] at hp hne ⊢
      subst hc
      have e1 : Lib.parseMag r = Lib.parseUint10 0 r := by unfold Lib.parseMag; rw [if_neg hne]
      unfold Lib.atoiAll
      simp only [show (45 : UInt8).toNat = 45 from rfl, or_true, if_true, e1, hp]
      by_cases g1 : nv 10 r < 18446744073709551616
      · rw [if_pos g1]
        by_cases g2 : nv 10 r ≤ 9223372036854775808
        · first | (simp [g2]; done) | (simp [g2]; omega)
        · first | (simp [g2]; done) | (simp [g2]; omega)
      · rw [if_neg g1]
        simp [show ¬ nv 10 r ≤ 9223372036854775808 by omega]
    | false =>
      have hc : c ≠ 45 := by intro e; subst e; simp [sgn] at hs
      have hm : mag (c :: r) = c :: r := by unfold mag; rw [hs]; rfl
      rw [hm] at hp hne hd ⊢
      obtain ⟨d1, d2, d3⟩ := val_digit c.toNat (hd c List.mem_cons_self)
      have e1 : Lib.parseMag (c :: r) = Lib.parseUint10 0 (c :: r) := by unfold Lib.parseMag; rw [if_neg (by simp)]
      have n1 : ¬ c.toNat = 43 := by omega
      have n2 : ¬ c.toNat = 45 := by omega
      unfold Lib.atoiAll
      simp only [n1, n2, or_self, if_false, e1, hp]
      by_cases g1 : nv 10 (c :: r) < 18446744073709551616
      · rw [if_pos g1]
        by_cases g2 : nv 10 (c :: r) < 9223372036854775808
        · simp [g2, show ¬ 9223372036854775808 ≤ nv 10 (c :: r) by omega]
        · simp [g2, show 9223372036854775808 ≤ nv 10 (c :: r) by omega]
      · rw [if_neg g1]
        simp [show ¬ nv 10 (c :: r) < 9223372036854775808 by omega]

theorem hexu_dec : ∀ u : Nat, u < 10 → hexu u = UInt8.ofNat (48 + u) := by decide +kernel
theorem txt_snoc (d n k : Nat) : txt d n (k + 1) = txt d (n / d) k ++ [hexu (n % d)] := by
  unfold txt
  rw [List.range_succ, List.map_append]
  congr 1
  · apply List.map_congr_left
    intro j hj
    have := List.mem_range.1 hj
    rw [Nat.div_div_eq_div_mul, ← Nat.pow_succ', show (k - 1 - j).succ = k + 1 - 1 - j from by omega]
  · simp
theorem decDigits_txt (u : Nat) : ∃ k, NumDig 10 u k ∧ Lib.decDigits u = txt 10 u k := by
  induction u using Nat.strongRecOn with
  | _ u ih =>
    rw [Lib.decDigits]
    by_cases h : u < 10
    · rw [dif_pos h]
      refine ⟨1, ⟨by omega, by simp; omega, .inl rfl⟩, ?_⟩
      have : txt 10 u 1 = [hexu (u % 10)] := by rw [txt_snoc]; rfl
      rw [this, Nat.mod_eq_of_lt h, hexu_dec u h]
    · rw [dif_neg h]
      obtain ⟨k, hk, e⟩ := ih (u / 10) (by omega)
      refine ⟨k + 1, ⟨by omega, ?_, .inr ?_⟩, ?_⟩
      · rw [Nat.pow_succ', ← Nat.div_div_eq_div_mul]; exact hk.2.1
      · rw [Nat.add_sub_cancel]
        have h1 := hk.1
        rcases hk.2.2 with h2 | h2
        · subst h2; simp; omega
        · obtain ⟨j, rfl⟩ : ∃ j, k = j + 1 := ⟨k - 1, by omega⟩
          rw [Nat.pow_succ', ← Nat.div_div_eq_div_mul]
          simpa using h2
      · rw [txt_snoc, e, hexu_dec _ (Nat.mod_lt _ (by omega))]

theorem pint_itoa (n : Int) (h0 : -9223372036854775808 ≤ n) (h1 : n ≤ 9223372036854775807) : pint (Lib.itoa n) = (n, 0) := by
  unfold Lib.itoa
  by_cases hn : n < 0
  · rw [if_pos hn]
    obtain ⟨k, hk, e⟩ := decDigits_txt n.natAbs
    rw [e]
    have hp := plain_txt 10 n.natAbs k (by omega) (by omega) hk
    have hv := nv_txt 10 n.natAbs k (by omega) (by omega) hk.2.1
    have hs : sgn (45 :: txt 10 n.natAbs k) = true := rfl
    have hm : mag (45 :: txt 10 n.natAbs k) = txt 10 n.natAbs k := rfl
    have hz : (txt 10 n.natAbs k == [48]) = false := by
      rw [beq_eq_false_iff_ne]
      intro e0
      rw [e0] at hv
      have : n.natAbs = 0 := by rw [← hv]; decide
      omega
    unfold pint
    rw [hs, hm, hp, hv, hz]
    simp only [Bool.and_false, Bool.not_false, Bool.and_self, if_true]
    rw [if_pos (by omega)]
    simp; omega
  · rw [if_neg hn]
    obtain ⟨k, hk, e⟩ := decDigits_txt n.toNat
    rw [e]
    have hp := plain_txt 10 n.toNat k (by omega) (by omega) hk
    have hv := nv_txt 10 n.toNat k (by omega) (by omega) hk.2.1
    have hs : sgn (txt 10 n.toNat k) = false := by
      cases ht : txt 10 n.toNat k with
      | nil => rfl
      | cons c r =>
        rw [ht] at hp
        have := (val_digit c.toNat ((plain_digits hp).1 c List.mem_cons_self)).1
        unfold sgn
        simp only [List.head?_cons]
        rw [beq_eq_false_iff_ne]
        intro e
        injection e with e
        subst e
        exact absurd this (by decide)
    have hm : mag (txt 10 n.toNat k) = txt 10 n.toNat k := by unfold mag; rw [hs]; rfl
    unfold pint
    rw [hs, hm, hp, hv]
    simp only [Bool.false_and, Bool.not_false, Bool.and_self, if_true, Bool.false_eq_true, if_false]
    rw [if_pos (by omega)]
    simp; omega

/-- A long text of digits is worth much. -/
theorem nv_long {l : List UInt8} (h : isPlain 10 l = true) (hl : 30 < l.length) : 18446744073709551616 ≤ nv 10 l := by
  obtain ⟨hd, hne⟩ := plain_digits h
  rcases l with _ | ⟨c, r⟩
  · exact absurd rfl hne
  · have hc : val c.toNat ≠ 0 := by
      intro h0
      obtain ⟨d1, d2, d3⟩ := val_digit c.toNat (hd c List.mem_cons_self)
      have : c = 48 := by
        apply UInt8.toNat_inj.1
        show c.toNat = 48
        omega
      subst this
      have hr : r = [] := by
        cases r with
        | nil => rfl
        | cons e r => simp [isPlain] at h
      subst hr
      simp at hl
    have h1 := nvA_ge r (val c.toNat)
    have e : nv 10 (c :: r) = nvA (val c.toNat) r := by rw [← nvA_zero, nvA_cons]; simp
    rw [e]
    have h2 : 10 ^ 30 ≤ 10 ^ r.length := Nat.pow_le_pow_right (by omega) (by simp at hl; omega)
    have h3 : 1 * 10 ^ r.length ≤ val c.toNat * 10 ^ r.length := Nat.mul_le_mul_right _ (by omega)
    omega
theorem nv_short {l : List UInt8} (h : isPlain 10 l = true) (hl : l.length ≤ 30) : nv 10 l < 1000000000000000000000000000000 := by
  obtain ⟨hd, hne⟩ := plain_digits h
  have h1 := nvA_lt l 0 hd
  rw [nvA_zero] at h1
  have h2 : 10 ^ l.length ≤ 10 ^ 30 := Nat.pow_le_pow_right (by omega) hl
  omega

end Go.Proofs.YtojjmcghcgidlaaDoor.Rd
