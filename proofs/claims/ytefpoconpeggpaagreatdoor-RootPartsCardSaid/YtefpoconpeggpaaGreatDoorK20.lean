/- What pack.Round answers where it neither overflows nor underflows, of more digits than the precision. -/
import Derived.Test.YtefpoconpeggpaaGreatDoorK18
import Derived.Test.YtefpoconpeggpaaGreatDoorK04
import Derived.Test.YtefpoconpeggpaaGreatDoorK19
namespace Go.Proofs.YtefpoconpeggpaaGreatDoor.Rd
set_option linter.unusedVariables false

/-- c m k tells how m times 2^k stands to a number that lies, in units of 2^e, at r, or (s) between r and r + 1. -/
def KnC (c : Nat → Int → Int) (e : Int) (r : Nat) (s : Bool) : Prop := ∀ (m : Nat) (b : Nat), (c m (e + b) < 0 ↔ (m * 2 ^ b < r ∨ (m * 2 ^ b = r ∧ s = true))) ∧ (c m (e + b) = 0 ↔ (m * 2 ^ b = r ∧ s = false))
section
variable {c : Nat → Int → Int} {e : Int} {r : Nat} {s : Bool}
theorem KnC.le (h : KnC c e r s) (m b : Nat) : c m (e + b) ≤ 0 ↔ m ≤ r / 2 ^ b := by
  obtain ⟨h1, h2⟩ := h m b
  rw [Nat.le_div_iff_mul_le (Nat.pow_pos (by omega))]
  constructor
  · intro h
    rcases Int.lt_or_eq_of_le h with h | h
    · rcases h1.1 h with h | h <;> omega
    · have := (h2.1 h).1; omega
  · intro hq
    rcases Nat.lt_or_eq_of_le hq with hq | hq
    · have := h1.2 (.inl hq); omega
    · by_cases hs : s = true
      · have := h1.2 (.inr ⟨hq, hs⟩); omega
      · have := h2.2 ⟨hq, by simpa using hs⟩; omega
theorem KnC.eq (h : KnC c e r s) (b : Nat) : c (r / 2 ^ b) (e + b) = 0 ↔ (r % 2 ^ b = 0 ∧ s = false) := by
  rw [(h (r / 2 ^ b) b).2]
  have := Nat.div_add_mod r (2 ^ b)
  rw [Nat.mul_comm] at this
  constructor
  · rintro ⟨h1, h2⟩; exact ⟨by omega, h2⟩
  · rintro ⟨h1, h2⟩; exact ⟨by omega, h2⟩
theorem KnC.mid (h : KnC c e r s) (b : Nat) : max (-1) (min 1 (c (2 * (r / 2 ^ (b + 1)) + 1) (e + b))) = midC r b s := by
  obtain ⟨h1, h2⟩ := h (2 * (r / 2 ^ (b + 1)) + 1) b
  have hp : 0 < 2 ^ b := Nat.pow_pos (by omega)
  have hd := Nat.div_add_mod r (2 ^ b)
  have hm := Nat.mod_lt r hp
  rw [Nat.mul_comm] at hd
  unfold midC
  generalize 2 * (r / 2 ^ (b + 1)) + 1 = q at *
  generalize c q (e + b) = x at *
  generalize r / 2 ^ b = u at *
  generalize r % 2 ^ b = v at *
  generalize 2 ^ b = k at *
  rcases Nat.lt_trichotomy q u with hq | rfl | hq
  · rw [if_pos hq]
    have h3 : (q + 1) * k ≤ u * k := Nat.mul_le_mul_right _ hq
    rw [Nat.add_mul] at h3
    have := h1.2 (.inl (by omega))
    omega
  · rw [if_neg (by omega), if_neg (by omega)]
    by_cases hv : v = 0 ∧ s = false
    · rw [if_pos hv]
      have := h2.2 ⟨by omega, hv.2⟩
      omega
    · rw [if_neg hv]
      have : x < 0 := h1.2 (by
        by_cases h0 : v = 0
        · exact .inr ⟨by omega, by cases s <;> simp_all⟩
        · exact .inl (by omega))
      omega
  · rw [if_neg (by omega), if_pos hq]
    have h3 : (u + 1) * k ≤ q * k := Nat.mul_le_mul_right _ hq
    rw [Nat.add_mul] at h3
    have n1 : ¬ x < 0 := fun hx => by rcases h1.1 hx with h | h <;> omega
    have n2 : ¬ x = 0 := fun hx => by have := (h2.1 hx).1; omega
    omega
/-- What is cut off at a place, as the reference tells it. -/
theorem KnC.rest (h : KnC c e r s) (b : Nat) : (if c (r / 2 ^ (b + 1)) (e + (b + 1 : Nat)) = 0 then 0 else 2 - max (-1) (min 1 (c (2 * (r / 2 ^ (b + 1)) + 1) (e + b)))) = (restN r (b + 1) s : Int) := by
  rw [rest_mid, h.mid]
  by_cases hx : r % 2 ^ (b + 1) = 0 ∧ s = false
  · rw [if_pos hx, if_pos ((h.eq (b + 1)).2 hx)]
  · rw [if_neg hx, if_neg (fun h' => hx ((h.eq (b + 1)).1 h'))]
theorem KnC.top (h : KnC c e r s) (hr : r ≠ 0) (b : Nat) : c 1 (e + b) ≤ 0 ↔ b < bl r := by
  rw [h.le, Nat.le_div_iff_mul_le (Nat.pow_pos (by omega)), Nat.one_mul]
  have h1 := (bl_spec r).1
  have h2 := bl_lo hr
  have h3 := bl_pos hr
  constructor
  · intro h
    rcases Nat.lt_or_ge b (bl r) with h' | h'
    · exact h'
    · have : 2 ^ bl r ≤ 2 ^ b := Nat.pow_le_pow_right (by omega) h'
      omega
  · intro h
    have : 2 ^ b ≤ 2 ^ (bl r - 1) := Nat.pow_le_pow_right (by omega) (by omega)
    omega
end

/-- The root of N times 2^E, that in units of 2^e is the root of n, whose whole part is r. -/
theorem KnC.root (N : Nat) (E e : Int) (t n r : Nat) (hE : E = 2 * e + t) (hn : n = N * 2 ^ t) (h1 : r * r ≤ n) (h2 : n < (r + 1) * (r + 1)) : KnC (fun m k => szC (m * m) (2 * k) N E) e r (decide (r * r ≠ n)) := by
  intro m b
  dsimp only
  obtain ⟨a1, a2⟩ := szC_sign (m * m) (2 * (e + b)) N E
  obtain ⟨h3, h4⟩ := scale_lt (m * m) N (2 * (e + b)) E (2 * e) (by omega) (by omega)
  rw [a1, a2, h3, h4, show (2 * (e + (b : Int)) - 2 * e).toNat = b + b by omega, show (E - 2 * e).toNat = t by omega, ← hn, Nat.pow_add]
  have em : m * m * (2 ^ b * 2 ^ b) = m * 2 ^ b * (m * 2 ^ b) := by grind
  rw [em]
  generalize m * 2 ^ b = x
  have hs : ∀ a b : Nat, a < b → a * a < b * b := fun a b h => Nat.mul_self_lt_mul_self h
  constructor
  · constructor
    · intro h
      rcases Nat.lt_trichotomy x r with h' | h' | h'
      · exact .inl h'
      · subst h'; exact .inr ⟨rfl, by simp; omega⟩
      · have := Nat.mul_self_le_mul_self (show r + 1 ≤ x from h'); omega
    · rintro (h | ⟨rfl, h⟩)
      · have := hs x r h; omega
      · simp at h; omega
  · constructor
    · intro h
      rcases Nat.lt_trichotomy x r with h' | h' | h'
      · have := hs x r h'; omega
      · subst h'; exact ⟨rfl, by simp; exact h⟩
      · have := Nat.mul_self_le_mul_self (show r + 1 ≤ x from h'); omega
    · rintro ⟨rfl, h⟩
      simpa using h

end Go.Proofs.YtefpoconpeggpaaGreatDoor.Rd

namespace Go.Proofs.YtefpoconpeggpaaGreatDoor.Rd
set_option linter.unusedVariables false

theorem pow_lt_of (p : Nat) {a k : Nat} (h : a < 2 ^ p) : a * 2 ^ k < 2 ^ (p + k) := by
  rw [Nat.pow_add]; exact Nat.mul_lt_mul_of_pos_right h (Nat.pow_pos (by omega))
theorem le_mul_pow (p : Nat) {a k : Nat} (h : 2 ^ p ≤ a) : 2 ^ (p + k) ≤ a * 2 ^ k := by
  rw [Nat.pow_add]; exact Nat.mul_le_mul_right _ h
/-- sg: a significand of p digits; by: p + 4 or p + 5; r: the root of what is shifted up. -/
theorem radicand_in (p sg by' r : Nat) (hp : 1 ≤ p) (hp2 : p ≤ 113) (h1 : 2 ^ (p - 1) ≤ sg) (h2 : sg < 2 ^ p) (hb1 : p + 4 ≤ by') (hb2 : by' ≤ p + 5) (hr1 : r * r ≤ sg * 2 ^ by') (hr2 : sg * 2 ^ by' < (r + 1) * (r + 1)) :
    sg * 2 ^ by' < 2 ^ 256 ∧ p < bl r ∧ bl r ≤ p + 3 ∧ sg * 2 ^ by' ≠ 0 := by
  have a1 := pow_lt_of p (k := by') h2
  have a2 := le_mul_pow (p - 1) (k := by') h1
  have a3 : 2 ^ (p + by') ≤ 2 ^ 256 := Nat.pow_le_pow_right (by omega) (by omega)
  have a4 : 2 ^ (p + 1 + (p + 1)) ≤ 2 ^ (p - 1 + by') := Nat.pow_le_pow_right (by omega) (by omega)
  have a5 : 2 ^ (p + by') ≤ 2 ^ (p + 3 + (p + 3)) := Nat.pow_le_pow_right (by omega) (by omega)
  have h0 : 0 < 2 ^ (p - 1 + by') := Nat.pow_pos (by omega)
  rw [Nat.pow_add 2 (p + 1) (p + 1)] at a4
  rw [Nat.pow_add 2 (p + 3) (p + 3)] at a5
  have b1 : 2 ^ (p + 1) ≤ r := by
    rcases Nat.lt_or_ge r (2 ^ (p + 1)) with h | h
    · have := Nat.mul_self_le_mul_self (show r + 1 ≤ 2 ^ (p + 1) from h)
      omega
    · exact h
  have b2 : r < 2 ^ (p + 3) := by
    rcases Nat.lt_or_ge r (2 ^ (p + 3)) with h | h
    · exact h
    · have := Nat.mul_self_le_mul_self h
      omega
  refine ⟨by omega, ?_, bl_le.2 b2, by omega⟩
  rcases Nat.lt_or_ge p (bl r) with h | h
  · exact h
  · have := bl_le.1 h
    have : 2 ^ p ≤ 2 ^ (p + 1) := Nat.pow_le_pow_right (by omega) (by omega)
    omega

end Go.Proofs.YtefpoconpeggpaaGreatDoor.Rd

namespace Go.Proofs.YtefpoconpeggpaaGreatDoor.Rd
set_option linter.unusedVariables false

/-- A number's digits from a place on. -/
def hig (r j : Nat) : Nat := r / 2 ^ j * 2 ^ j
theorem hig_step (r j : Nat) : (hig r (j + 1) + 2 ^ j ≤ r → hig r j = hig r (j + 1) + 2 ^ j) ∧ (¬ hig r (j + 1) + 2 ^ j ≤ r → hig r j = hig r (j + 1)) := by
  unfold hig
  have hp : 0 < 2 ^ j := Nat.pow_pos (by omega)
  have e : r / 2 ^ (j + 1) = r / 2 ^ j / 2 := by rw [Nat.pow_succ, Nat.div_div_eq_div_mul]
  have h1 := Nat.div_add_mod r (2 ^ j)
  have h2 := Nat.mod_lt r hp
  rw [e, Nat.pow_succ]
  generalize r / 2 ^ j = x at *
  generalize r % 2 ^ j = y at *
  generalize 2 ^ j = p at *
  have h3 := Nat.div_add_mod x 2
  have h4 := Nat.mod_lt x (show 0 < 2 by omega)
  have e2 : x / 2 * (p * 2) = 2 * (x / 2) * p := by grind
  rw [e2]
  generalize x / 2 = z at *
  rcases (show x % 2 = 0 ∨ x % 2 = 1 by omega) with h | h
  · have hx : x = 2 * z := by omega
    subst hx
    have e3 : p * (2 * z) = 2 * z * p := Nat.mul_comm _ _
    exact ⟨fun h' => by omega, fun _ => rfl⟩
  · have hx : x = 2 * z + 1 := by omega
    subst hx
    have e3 : p * (2 * z + 1) = 2 * z * p + p := by grind
    have e4 : (2 * z + 1) * p = 2 * z * p + p := by grind
    exact ⟨fun _ => by omega, fun h' => by omega⟩
theorem hig_le (r j : Nat) : hig r j ≤ r := Nat.div_mul_le_self _ _
theorem hig_zero (r : Nat) : hig r 0 = r := by unfold hig; rw [Nat.pow_zero, Nat.div_one, Nat.mul_one]
theorem hig_top (r j : Nat) (h : r < 2 ^ j) : hig r j = 0 := by unfold hig; rw [Nat.div_eq_of_lt h, Nat.zero_mul]
theorem hig_add_lt (r k j : Nat) (h : r < 2 ^ k) (hj : j < k) : hig r (j + 1) + 2 ^ j < 2 ^ k := by
  have hp : 0 < 2 ^ j := Nat.pow_pos (by omega)
  have h1 : r / 2 ^ (j + 1) < 2 ^ (k - (j + 1)) := by
    rw [Nat.div_lt_iff_lt_mul (Nat.pow_pos (by omega)), ← Nat.pow_add]
    rw [show k - (j + 1) + (j + 1) = k by omega]; exact h
  have h2 : (r / 2 ^ (j + 1) + 1) * 2 ^ (j + 1) ≤ 2 ^ (k - (j + 1)) * 2 ^ (j + 1) := Nat.mul_le_mul_right _ h1
  rw [← Nat.pow_add, show k - (j + 1) + (j + 1) = k by omega, Nat.add_mul, Nat.one_mul, Nat.pow_succ] at h2
  unfold hig
  rw [Nat.pow_succ]
  omega
/-- The exponent of the least unit. -/
def eLo (f : Nat) : Int := 2 - (fE f : Int) - fP f
/-- What a word stands for, held against a number: at any exponent that isn't above. -/
theorem szC_word (f w : Nat) (u : Nat) (pl l : Int) (h1 : l ≤ eLo f) (h2 : l ≤ pl) (we : Int) (hwe : we = ((wField f w - 1 : Nat) : Int) + (1 - (fE f : Int)) - fP f + 1) :
    (szC (wSig f w) we u pl ≤ 0 ↔ wV f w * 2 ^ (eLo f - l).toNat ≤ u * 2 ^ (pl - l).toNat) ∧ (szC (wSig f w) we u pl = 0 ↔ wV f w * 2 ^ (eLo f - l).toNat = u * 2 ^ (pl - l).toNat) := by
  obtain ⟨a1, a2⟩ := szC_sign (wSig f w) we u pl
  have hl : l ≤ we := by unfold eLo at h1; omega
  obtain ⟨b1, b2⟩ := scale_lt (wSig f w) u we pl l hl h2
  have e : wSig f w * 2 ^ (we - l).toNat = wV f w * 2 ^ (eLo f - l).toNat := by
    unfold wV
    rw [Nat.mul_assoc, ← Nat.pow_add]
    congr 2
    unfold eLo at *
    omega
  rw [e] at b1 b2
  constructor
  · constructor
    · intro h
      rcases Int.lt_or_eq_of_le h with h | h
      · exact Nat.le_of_lt (b1.1 (a1.1 h))
      · exact Nat.le_of_eq (b2.1 (a2.1 h))
    · intro h
      rcases Nat.lt_or_eq_of_le h with h | h
      · exact Int.le_of_lt (a1.2 (b1.2 h))
      · exact Int.le_of_eq (a2.2 (b2.2 h))
  · rw [a2, b2]

/-- M' is the greatest finite word, without its sign, that isn't above u times 2^pl. -/
def IsFind (f u : Nat) (pl : Int) (M' : Nat) : Prop := M' < (2 * fE f + 1) * 2 ^ (fP f - 1) ∧ ∀ w, w < 2 ^ (fB f - 1) → ∀ we : Int, we = ((wField f w - 1 : Nat) : Int) + (1 - (fE f : Int)) - fP f + 1 → ((wFin f w = true ∧ szC (wSig f w) we u pl ≤ 0) ↔ w ≤ M')
/-- A number that just is a word's. -/
theorem IsFind.exact (f u : Nat) (pl l : Int) (M' : Nat) (h1 : l ≤ eLo f) (h2 : l ≤ pl) (hM : M' < (2 * fE f + 1) * 2 ^ (fP f - 1)) (he : wV f M' * 2 ^ (eLo f - l).toNat = u * 2 ^ (pl - l).toNat) : IsFind f u pl M' := by
  refine ⟨hM, fun w hw we hwe => ?_⟩
  rw [(szC_word f w u pl l h1 h2 we hwe).1, ← he, Nat.mul_le_mul_right_iff (Nat.pow_pos (by omega))]
  exact find_exact f hw hM

end Go.Proofs.YtefpoconpeggpaaGreatDoor.Rd

namespace Go.Proofs.YtefpoconpeggpaaGreatDoor.Rd
set_option linter.unusedVariables false

/-- What a text of signs is worth. -/
def sv (l : List UInt8) : Nat := l.foldl (fun a c => 2 * a + (if c = 49 then 1 else 0)) 0
/-- The word of an infinite one. -/
def infW (f : Nat) (ng : Bool) : Nat := (2 * fE f + 1) * 2 ^ (fP f - 1) + (if ng then 2 ^ (fB f - 1) else 0)
def maxW (f : Nat) (ng : Bool) : Nat := (2 * fE f + 1) * 2 ^ (fP f - 1) - 1 + (if ng then 2 ^ (fB f - 1) else 0)
end Go.Proofs.YtefpoconpeggpaaGreatDoor.Rd

namespace Go.Proofs.YtefpoconpeggpaaGreatDoor.Rd
open Go Go.RowKit
set_option linter.unusedVariables false
set_option linter.unusedSimpArgs false
set_option maxRecDepth 100000

theorem bp_tc {P : Program} {fn : Func} {R : Ending → World → Prop} {a : Act} {w : World} {p q : Tmp} {T : TypeId} {v u : Value} (h : fn.results = #[.tmp q, .cell p T]) (hd : a.defers = []) (h2 : a.tmps.getD q undef = u) (h1 : LV P w a p T v) (hR : R (.returned (.tuple #[u, v])) w) : bodyPost P fn R .ret a w := by
  obtain ⟨ad, h1, h3⟩ := h1
  subst h2
  refine bodyPost_ret (v := .tuple #[a.tmps.getD q undef, v]) ?_ hd hR
  simp only [results, h]
  simp only [Array.getD_eq_getD_getElem?] at h1
  simp [Sem.run_bind, Result.andThen, h1, asAddr, h3]

set_option maxHeartbeats 4000000 in
theorem format_word (f : Nat) (h1 : 1 ≤ f) (h4 : f ≤ 4) (ng : Bool) (g : FuncId) (hg : GoF Tryz.prog g) (fld fr : Nat) (hf : fld ≤ 2 * fE f + 1) (hfr : fr < 2 ^ (fP f - 1)) (hgv : Gives Tryz.prog g #[.agg (fmC f)] (.tuple #[.int .i64 fld, W fr])) (w0 : World) (hF : FmtIn w0) :
    GivesAt Tryz.prog 116 #[.int .i64 f, .bool ng, .func (.func g) #[] #[]] (Wd (mkW f ng fld fr)) w0 := by
  have hst := St.start [] w0
  have hk := Lib.hid (fun w (k : Keeps [] w0 w) => hF.keep k (by simp))
  have hof := fun w h => format_Of f h1 h4 w h
  have hP := fP_in f
  have hE := fE_in f
  have hB := fB_in f
  have hpM : 2 ^ (fP f - 1) < M := small_M2 _ (by omega)
  have hfM : fr < M := Nat.lt_trans hfr hpM
  have hbl : bl fr ≤ fP f - 1 := bl_le.2 hfr
  have hfB : fld < B := by rw [B_val]; omega
  have hwo := of_u64 fld hfB
  have h1' := Lib.hid (wc_1 fld hfB)
  have hx : fr + fld * 2 ^ (fP f - 1) < 2 ^ (fB f - 1) := by
    have e : 2 ^ (fB f - 1) = 2 ^ fK f * 2 ^ (fP f - 1) := by rw [← Nat.pow_add, fBPK]; congr 1; omega
    rw [e, ← fE_pow]
    have : (fld + 1) * 2 ^ (fP f - 1) ≤ (2 * fE f + 2) * 2 ^ (fP f - 1) := Nat.mul_le_mul_right _ (by omega)
    rw [Nat.add_mul, Nat.one_mul] at this
    omega
  have hbM : 2 ^ (fB f - 1) < M := small_M2 _ (by omega)
  have hshl := wide_Shl fld (fP f - 1 : Nat) (Nat.lt_trans hfB (small_M2 64 (by omega)))
  rw [clampN_nat _ (by omega), Nat.mod_eq_of_lt (show fld * 2 ^ (fP f - 1) < M by omega)] at hshl
  have hadd := wide_Add fr (fld * 2 ^ (fP f - 1)) hfM (by omega)
  rw [Nat.mod_eq_of_lt (show fr + fld * 2 ^ (fP f - 1) < M by omega)] at hadd
  have hpw := wide_Power ((fB f : Int) - 1)
  rw [show pow2 ((fB f : Int) - 1) = 2 ^ (fB f - 1) by unfold pow2; rw [if_pos (by omega)]; congr 1; omega] at hpw
  have h2 : 2 ^ (fB f - 1) + 2 ^ (fB f - 1) ≤ M2 := by
    have a : 2 ^ fB f ≤ 2 ^ 128 := Nat.pow_le_pow_right (by omega) hB.2
    have b : 2 ^ fB f = 2 ^ (fB f - 1) + 2 ^ (fB f - 1) := by
      obtain ⟨p, hp⟩ : ∃ p, fB f = p + 1 := ⟨fB f - 1, by omega⟩
      rw [hp, Nat.add_sub_cancel, Nat.pow_succ]; omega
    have c : M2 = 2 ^ 128 := by decide
    omega
  have h2M : M2 ≤ M := by rw [M_eq]; exact Nat.pow_le_pow_right B_pos (by omega)
  have hadd2 := wide_Add (fr + fld * 2 ^ (fP f - 1)) (2 ^ (fB f - 1)) (by omega) hbM
  rw [Nat.mod_eq_of_lt (show fr + fld * 2 ^ (fP f - 1) + 2 ^ (fB f - 1) < M by omega)] at hadd2
  have hlow1 := wide_Low (fr + fld * 2 ^ (fP f - 1))
  rw [Nat.mod_eq_of_lt (by omega)] at hlow1
  have hlow2 := wide_Low (fr + fld * 2 ^ (fP f - 1) + 2 ^ (fB f - 1))
  rw [Nat.mod_eq_of_lt (by omega)] at hlow2
  rw [show ((fP f - 1 : Nat) : Int) = (fP f : Int) - 1 by omega] at hshl
  have hW1 : IntKind.i64.wrap ((fP f : Int) - 1) = (fP f : Int) - 1 := by rw [IntKind.wrap_i64]; omega
  have hW2 : IntKind.i64.wrap ((fB f : Int) - 1) = (fB f : Int) - 1 := by rw [IntKind.wrap_i64]; omega
  have hW3 : IntKind.i64.wrap (2 * (fE f : Int)) = 2 * (fE f : Int) := by rw [IntKind.wrap_i64]; omega
  have hW4 : IntKind.i64.wrap (2 * (fE f : Int) + 1) = 2 * (fE f : Int) + 1 := by rw [IntKind.wrap_i64]; omega
  have hW5 : IntKind.u64.wrap (fld : Int) = (fld : Int) := by rw [u64_wrap, Nat.mod_eq_of_lt hfB]
  have z1 := fmC_size f
  have z2 := fmC_one f
  have g0 : (fmC f)[0]? = some (.int .i64 (fB f : Nat)) := rfl
  have g1 : (fmC f)[0 + 1]? = some (.int .i64 (fP f : Nat)) := rfl
  have g2 : (fmC f)[0 + 2]? = some (.int .i64 (fE f : Nat)) := rfl
  unfold mkW
  clear hF hf hfr hbl hfB hx hbM h2 h2M hpM hfM
  obtain ⟨x2, hx2⟩ : ∃ x2, fr + fld * 2 ^ (fP f - 1) + 2 ^ (fB f - 1) = x2 := ⟨_, rfl⟩
  rw [hx2] at hadd2 hlow2
  generalize fr + fld * 2 ^ (fP f - 1) = x1 at *
  generalize fld * 2 ^ (fP f - 1) = x0 at *
  generalize 2 ^ (fB f - 1) = pb' at *
  generalize fmC f = cs at *
  generalize fP f = p at *
  generalize fE f = E at *
  generalize fB f = bb at *
  cases ng
  · rw [if_neg (by simp), Nat.add_zero]
    clear hx2
    go_enter Tryz.func116, Tryz.ntmps116
    go_wp2_with ((first | (refine kg gf70 hst (fun w hst => hof w (hk.out w hst.keeps)) rfl rfl rfl rfl ?_; clear hst; intro w hst) | (refine kf hg hst (hgv) rfl rfl rfl rfl ?_; clear hst; intro w hst) | (refine ka 6 hst tz24 rfl rfl ?_; clear hst; intro b6 w hb6 hst) | (refine ka 7 hst tz128 rfl rfl ?_; clear hst; intro b7 w hb7 hst) | (refine kt hst ta128 rfl rfl ?_; clear hst; intro w hst) | (refine kl hst ta128 rfl ?_) | (refine ka 10 hst tz44 rfl rfl ?_; clear hst; intro b10 w hb10 hst) | (refine kt hst ta44 rfl rfl ?_; clear hst; intro w hst)); try simp only [pz, pn, sz, sc])
    refine wp_region_T 13  hst (by kernel_rfl) ?_; clear hst; intro w hst; (try simp only [List.length_cons, List.length_nil, Nat.reduceAdd, Array.replicate_succ, Array.replicate_zero, List.push_toArray, List.nil_append, List.cons_append])
    refine r0 1 ?_; simp only [pz, pn, sz, sc, hW1, hW5]
    refine r0 2 ?_; simp only [pz, pn, sz, sc, hW1, hW5]
    refine r0 5 ?_; simp only [pz, pn, sz, sc, hW1, hW5]
    refine rl 0 rfl ?_ (by first | exact ylA ta44 | exact ylM ta44); simp only [pz, pn, sz, sc, hW1, hW5]
    refine rl 6 rfl ?_ (ylC tc3); simp only [pz, pn, sz, sc, hW1, hW5]
    refine r0 7 ?_; simp only [pz, pn, sz, sc, hW1, hW5]
    refine r1 3 ?_; (refine wl_slice1 (o := ⟨some 29, _, _, _, _, _⟩) hst ts123 te22 rfl rfl (by (simp only [eval_lit, eval_k, eval_f, eval_g, List.getD_cons_succ, List.getD_cons_zero]) <;> rfl) (by rfl) ?_; clear hst; intro b29 w hb29 hst); (try simp only [pz, pn, sz, sc, hW1, hW5]); refine re ?_
    refine r1 4 ?_; (refine kg gf131 hst (fun w hst => hwo _ w (by rw [← h1'.out]; exact hst.own _ _ (by repeat (first | exact List.Mem.head _ | refine List.Mem.tail _ ?_)))) rfl rfl rfl rfl ?_; clear hst; intro w hst); (try simp only [pz, pn, sz, sc, hW1, hW5]); refine re ?_
    refine r1 8 ?_; (refine kf gf48 hst (hshl) rfl rfl rfl rfl ?_; clear hst; intro w hst); (try simp only [pz, pn, sz, sc, hW1, hW5]); refine re ?_
    refine r1 9 ?_; (refine kf gf104 hst (hadd) rfl rfl rfl rfl ?_; clear hst; intro w hst); (try simp only [pz, pn, sz, sc, hW1, hW5]); refine re ?_
    refine r0 10 ?_; simp only [pz, pn, sz, sc, hW1, hW5]
    refine r0 11 ?_; simp only [pz, pn, sz, sc, hW1, hW5]
    refine r0 12 ?_; simp only [pz, pn, sz, sc, hW1, hW5]
    refine r1 13 ?_; (refine kt hst ta44 rfl rfl ?_; clear hst; intro w hst); (try simp only [pz, pn, sz, sc, hW1, hW5]); refine re ?_
    refine rd_ ?_
    all_goals
      go_wp2_with ((first | (refine kf gf139 hst (hlow1) rfl rfl rfl rfl ?_; clear hst; intro w hst) | (refine kt hst ta24 rfl rfl ?_; clear hst; intro w hst) | (refine kl hst ta44 rfl ?_)); try simp only [pz, pn, sz, sc])
      refine bp_c rfl rfl (la hst ta24) ⟨?_, hst.keeps⟩
      rfl
  · rw [if_pos rfl, hx2]
    clear hx2
    go_enter Tryz.func116, Tryz.ntmps116
    go_wp2_with ((first | (refine kg gf70 hst (fun w hst => hof w (hk.out w hst.keeps)) rfl rfl rfl rfl ?_; clear hst; intro w hst) | (refine kf hg hst (hgv) rfl rfl rfl rfl ?_; clear hst; intro w hst) | (refine ka 6 hst tz24 rfl rfl ?_; clear hst; intro b6 w hb6 hst) | (refine ka 7 hst tz128 rfl rfl ?_; clear hst; intro b7 w hb7 hst) | (refine kt hst ta128 rfl rfl ?_; clear hst; intro w hst) | (refine kl hst ta128 rfl ?_) | (refine ka 10 hst tz44 rfl rfl ?_; clear hst; intro b10 w hb10 hst) | (refine kt hst ta44 rfl rfl ?_; clear hst; intro w hst)); try simp only [pz, pn, sz, sc])
    refine wp_region_T 13  hst (by kernel_rfl) ?_; clear hst; intro w hst; (try simp only [List.length_cons, List.length_nil, Nat.reduceAdd, Array.replicate_succ, Array.replicate_zero, List.push_toArray, List.nil_append, List.cons_append])
    refine r0 1 ?_; simp only [pz, pn, sz, sc, hW1, hW5]
    refine r0 2 ?_; simp only [pz, pn, sz, sc, hW1, hW5]
    refine r0 5 ?_; simp only [pz, pn, sz, sc, hW1, hW5]
    refine rl 0 rfl ?_ (by first | exact ylA ta44 | exact ylM ta44); simp only [pz, pn, sz, sc, hW1, hW5]
    refine rl 6 rfl ?_ (ylC tc3); simp only [pz, pn, sz, sc, hW1, hW5]
    refine r0 7 ?_; simp only [pz, pn, sz, sc, hW1, hW5]
    refine r1 3 ?_; (refine wl_slice1 (o := ⟨some 29, _, _, _, _, _⟩) hst ts123 te22 rfl rfl (by (simp only [eval_lit, eval_k, eval_f, eval_g, List.getD_cons_succ, List.getD_cons_zero]) <;> rfl) (by rfl) ?_; clear hst; intro b29 w hb29 hst); (try simp only [pz, pn, sz, sc, hW1, hW5]); refine re ?_
    refine r1 4 ?_; (refine kg gf131 hst (fun w hst => hwo _ w (by rw [← h1'.out]; exact hst.own _ _ (by repeat (first | exact List.Mem.head _ | refine List.Mem.tail _ ?_)))) rfl rfl rfl rfl ?_; clear hst; intro w hst); (try simp only [pz, pn, sz, sc, hW1, hW5]); refine re ?_
    refine r1 8 ?_; (refine kf gf48 hst (hshl) rfl rfl rfl rfl ?_; clear hst; intro w hst); (try simp only [pz, pn, sz, sc, hW1, hW5]); refine re ?_
    refine r1 9 ?_; (refine kf gf104 hst (hadd) rfl rfl rfl rfl ?_; clear hst; intro w hst); (try simp only [pz, pn, sz, sc, hW1, hW5]); refine re ?_
    refine r0 10 ?_; simp only [pz, pn, sz, sc, hW1, hW5]
    refine r0 11 ?_; simp only [pz, pn, sz, sc, hW1, hW5]
    refine r0 12 ?_; simp only [pz, pn, sz, sc, hW1, hW5]
    refine r1 13 ?_; (refine kt hst ta44 rfl rfl ?_; clear hst; intro w hst); (try simp only [pz, pn, sz, sc, hW1, hW5]); refine re ?_
    refine rd_ ?_
    all_goals
      go_wp2_with fail
      refine wp_region_T 9  hst (by kernel_rfl) ?_; clear hst; intro w hst; (try simp only [List.length_cons, List.length_nil, Nat.reduceAdd, Array.replicate_succ, Array.replicate_zero, List.push_toArray, List.nil_append, List.cons_append])
      refine r0 1 ?_; simp only [pz, pn, sz, sc, hW2]
      refine rl 0 rfl ?_ (by first | exact ylA ta44 | exact ylM ta44); simp only [pz, pn, sz, sc, hW2]
      refine rl 2 rfl ?_ (ylC tc3); simp only [pz, pn, sz, sc, hW2]
      refine r0 3 ?_; simp only [pz, pn, sz, sc, hW2]
      refine r1 4 ?_; (refine kf gf127 hst (hpw) rfl rfl rfl rfl ?_; clear hst; intro w hst); (try simp only [pz, pn, sz, sc, hW2]); refine re ?_
      refine r1 5 ?_; (refine kf gf104 hst (hadd2) rfl rfl rfl rfl ?_; clear hst; intro w hst); (try simp only [pz, pn, sz, sc, hW2]); refine re ?_
      refine r0 6 ?_; simp only [pz, pn, sz, sc, hW2]
      refine r0 7 ?_; simp only [pz, pn, sz, sc, hW2]
      refine r0 8 ?_; simp only [pz, pn, sz, sc, hW2]
      refine r1 9 ?_; (refine kt hst ta44 rfl rfl ?_; clear hst; intro w hst); (try simp only [pz, pn, sz, sc, hW2]); refine re ?_
      refine rd_ ?_
      all_goals
        go_wp2_with ((first | (refine kf gf139 hst (hlow2) rfl rfl rfl rfl ?_; clear hst; intro w hst) | (refine kt hst ta24 rfl rfl ?_; clear hst; intro w hst) | (refine kl hst ta44 rfl ?_)); try simp only [pz, pn, sz, sc])
        refine bp_c rfl rfl (la hst ta24) ⟨?_, hst.keeps⟩
        rfl

theorem W_nought : W 0 = .agg #[.int .u64 0, .int .u64 0, .int .u64 0, .int .u64 0, .int .u64 0, .int .u64 0, .int .u64 0, .int .u64 0] := by kernel_rfl
theorem format_ones (f : Nat) : Gives Tryz.prog 146 #[.agg (fmC f)] (.int .i64 ((2 * fE f + 1 : Nat) : Int)) := by
  intro w0
  have hst := St.start [] w0
  have hE := fE_in f
  have z1 := fmC_size f
  have z2 := fmC_one f
  have g2 : (fmC f)[0 + 2]? = some (.int .i64 (fE f : Nat)) := rfl
  rw [show ((2 * fE f + 1 : Nat) : Int) = 2 * (fE f : Int) + 1 by omega]
  generalize fmC f = cs at *
  generalize fE f = E at *
  go_enter Tryz.func146, Tryz.ntmps146
  go_wp2_with ((first | (refine kb 1 hst rfl rfl ?_; clear hst; intro b1 w hb1 hst) | (refine kc hst tc3 rfl ?_)); try simp only [pz, pn, sz, sc])
  refine bp_t rfl rfl (by rfl) ⟨?_, hst.keeps⟩
  rfl
theorem format_Inf_1 (f : Nat) : Gives Tryz.prog 145 #[.agg (fmC f)] (.tuple #[.int .i64 ((2 * fE f + 1 : Nat) : Int), W 0]) := by
  intro w0
  have hst := St.start [] w0
  have ho := format_ones f
  have z1 := fmC_size f
  have z2 := fmC_one f
  generalize fmC f = cs at *
  generalize ((2 * fE f + 1 : Nat) : Int) = x at *
  go_enter Tryz.func145, Tryz.ntmps145
  go_wp2_with ((first | (refine kf gf146 hst (ho) rfl rfl rfl rfl ?_; clear hst; intro w hst) | (refine kb 1 hst rfl rfl ?_; clear hst; intro b1 w hb1 hst) | (refine ka 3 hst tz44 rfl rfl ?_; clear hst; intro b3 w hb3 hst) | (refine kl hst ta128 rfl ?_) | (refine kt hst ta44 rfl rfl ?_; clear hst; intro w hst)); try simp only [pz, pn, sz, sc])
  refine bp_tc rfl rfl (by rfl) (la hst ta44) ⟨?_, hst.keeps⟩
  rw [W_nought]; rfl
set_option maxHeartbeats 2000000 in
theorem wide_Mask (n : Nat) (h1 : 1 ≤ n) (hn : n < 512) : Gives Tryz.prog 148 #[.int .i64 n] (W (2 ^ n - 1)) := by
  intro w0
  have hst := St.start [] w0
  have hpw := wide_Power (n : Int)
  rw [show pow2 (n : Int) = 2 ^ n by unfold pow2; rw [if_pos (by omega)]; congr 1] at hpw
  have hp : 0 < 2 ^ n := Nat.pow_pos (by omega)
  have hM : 2 ^ n < M := by
    have key : ∀ t, M = 2 ^ t → n < t → 2 ^ n < M := fun t e h => by rw [e]; exact Nat.pow_lt_pow_right (by omega) h
    exact key (64 * 8) (by rw [M_eq, show B = 2 ^ 64 from rfl, ← Nat.pow_mul]) (by omega)
  have hwo := of_u64 1 (by decide)
  have h1' := Lib.hid (wc_1 1 (by decide))
  have hsub := wide_Sub (2 ^ n) 1 hM (by omega)
  rw [show (2 ^ n + M - 1) % M = 2 ^ n - 1 by rw [show 2 ^ n + M - 1 = 2 ^ n - 1 + M by omega, Nat.add_mod_right, Nat.mod_eq_of_lt (by omega)]] at hsub
  clear hM hp
  have n0 : (0 : Int) ≤ (n : Int) := by omega
  have hmx : max 0 (n : Int) = (n : Int) := by omega
  generalize 2 ^ n - 1 = y at *
  generalize 2 ^ n = x at *
  go_enter Tryz.func148, Tryz.ntmps148
  go_wp2_with ((first | (refine kf gf127 hst (hpw) rfl rfl rfl rfl ?_; clear hst; intro w hst) | (refine kg gf131 hst (fun w hst => hwo _ w (by rw [← h1'.out]; exact hst.own _ _ (by repeat (first | exact List.Mem.head _ | refine List.Mem.tail _ ?_)))) rfl rfl rfl rfl ?_; clear hst; intro w hst) | (refine kf gf122 hst (hsub) rfl rfl rfl rfl ?_; clear hst; intro w hst) | (refine ka 2 hst tz44 rfl rfl ?_; clear hst; intro b2 w hb2 hst) | (refine wl_slice1 (o := ⟨some 9, _, _, _, _, _⟩) hst ts123 te22 rfl rfl (by (simp only [eval_lit, eval_k, eval_f, eval_g, List.getD_cons_succ, List.getD_cons_zero]) <;> rfl) (by rfl) ?_; clear hst; intro b9 w hb9 hst) | (refine ka 3 hst tz44 rfl rfl ?_; clear hst; intro b3 w hb3 hst) | (refine kt hst ta44 rfl rfl ?_; clear hst; intro w hst) | (refine kl hst ta44 rfl ?_)); try simp only [pz, pn, sz, sc])
  refine bp_c rfl rfl (la hst ta44) ⟨?_, hst.keeps⟩
  rfl

theorem format_Max_1 (f : Nat) : Gives Tryz.prog 147 #[.agg (fmC f)] (.tuple #[.int .i64 ((2 * fE f : Nat) : Int), W (2 ^ (fP f - 1) - 1)]) := by
  intro w0
  have hst := St.start [] w0
  have ho := format_ones f
  have hP := fP_in f
  have hE := fE_in f
  have hm := wide_Mask (fP f - 1) (by omega) (by omega)
  rw [show ((fP f - 1 : Nat) : Int) = (fP f : Int) - 1 by omega] at hm
  rw [show ((2 * fE f + 1 : Nat) : Int) = 2 * (fE f : Int) + 1 by omega] at ho
  rw [show ((2 * fE f : Nat) : Int) = 2 * (fE f : Int) by omega]
  have W1 : IntKind.i64.wrap ((fP f : Int) - 1) = (fP f : Int) - 1 := by rw [IntKind.wrap_i64]; omega
  have W2 : IntKind.i64.wrap (2 * (fE f : Int)) = 2 * (fE f : Int) := by rw [IntKind.wrap_i64]; omega
  have z1 := fmC_size f
  have z2 := fmC_one f
  have g1 : (fmC f)[0 + 1]? = some (.int .i64 (fP f : Nat)) := rfl
  generalize 2 ^ (fP f - 1) - 1 = y at *
  generalize fmC f = cs at *
  generalize fP f = p at *
  generalize fE f = E at *
  go_enter Tryz.func147, Tryz.ntmps147
  go_wp2_with ((first | (refine kb 1 hst rfl rfl ?_; clear hst; intro b1 w hb1 hst) | (refine ka 3 hst tz44 rfl rfl ?_; clear hst; intro b3 w hb3 hst)); try simp only [pz, pn, sz, sc])
  refine wp_region_T 8  hst (by kernel_rfl) ?_; clear hst; intro w hst; (try simp only [List.length_cons, List.length_nil, Nat.reduceAdd, Array.replicate_succ, Array.replicate_zero, List.push_toArray, List.nil_append, List.cons_append])
  refine r0 3 ?_; simp only [pz, pn, sz, sc, W1, W2]
  refine rl 0 rfl ?_ (by first | exact ylA ta128 | exact ylM ta128); simp only [pz, pn, sz, sc, W1, W2]
  refine rl 4 rfl ?_ (ylC tc3); simp only [pz, pn, sz, sc, W1, W2]
  refine r0 5 ?_; simp only [pz, pn, sz, sc, W1, W2]
  refine r1 1 ?_; (refine kf gf146 hst (ho) rfl rfl rfl rfl ?_; clear hst; intro w hst); (try simp only [pz, pn, sz, sc, W1, W2]); refine re ?_
  refine r0 2 ?_; simp only [pz, pn, sz, sc, W1, W2]
  refine r1 6 ?_; (refine kf gf148 hst (hm) rfl rfl rfl rfl ?_; clear hst; intro w hst); (try simp only [pz, pn, sz, sc, W1, W2]); refine re ?_
  refine r0 7 ?_; simp only [pz, pn, sz, sc, W1, W2]
  refine r1 8 ?_; (refine kt hst ta44 rfl rfl ?_; clear hst; intro w hst); (try simp only [pz, pn, sz, sc, W1, W2]); refine re ?_
  refine rd_ ?_
  all_goals
    go_wp2_with fail
    refine bp_tc rfl rfl (by rfl) (la hst ta44) ⟨?_, hst.keeps⟩
    rfl

theorem mkW_inf (f : Nat) (ng : Bool) : mkW f ng (2 * fE f + 1) 0 = infW f ng := by unfold mkW infW; rw [Nat.zero_add]
theorem mkW_max (f : Nat) (ng : Bool) : mkW f ng (2 * fE f) (2 ^ (fP f - 1) - 1) = maxW f ng := by
  unfold mkW maxW
  have hp : 0 < 2 ^ (fP f - 1) := Nat.pow_pos (by omega)
  rw [Nat.add_mul (2 * fE f) 1, Nat.one_mul]
  congr 1
  omega
theorem format_Inf (f : Nat) (h1 : 1 ≤ f) (h4 : f ≤ 4) (ng : Bool) (w0 : World) (hF : FmtIn w0) : GivesAt Tryz.prog 119 #[.int .i64 f, .bool ng] (Wd (infW f ng)) w0 := by
  have hst := St.start [] w0
  have hk := Lib.hid (fun w (k : Keeps [] w0 w) => hF.keep k (by simp))
  have hw := fun w h => format_word f h1 h4 ng 145 gf145 (2 * fE f + 1) 0 (by omega) (Nat.pow_pos (by omega)) (format_Inf_1 f) w h
  rw [mkW_inf] at hw
  clear hF h1 h4
  generalize infW f ng = x at *
  go_enter Tryz.func119, Tryz.ntmps119
  go_wp2_with ((first | (refine kg gf116 hst (fun w hst => hw w (hk.out w hst.keeps)) rfl rfl rfl rfl ?_; clear hst; intro w hst) | (refine ka 4 hst tz24 rfl rfl ?_; clear hst; intro b4 w hb4 hst) | (refine kt hst ta24 rfl rfl ?_; clear hst; intro w hst)); try simp only [pz, pn, sz, sc])
  refine bp_c rfl rfl (la hst ta24) ⟨?_, hst.keeps⟩
  rfl
theorem format_Max (f : Nat) (h1 : 1 ≤ f) (h4 : f ≤ 4) (ng : Bool) (w0 : World) (hF : FmtIn w0) : GivesAt Tryz.prog 120 #[.int .i64 f, .bool ng] (Wd (maxW f ng)) w0 := by
  have hst := St.start [] w0
  have hk := Lib.hid (fun w (k : Keeps [] w0 w) => hF.keep k (by simp))
  have hw := fun w h => format_word f h1 h4 ng 147 gf147 (2 * fE f) (2 ^ (fP f - 1) - 1) (by omega) (Nat.sub_lt (Nat.pow_pos (by omega)) (by omega)) (format_Max_1 f) w h
  rw [mkW_max] at hw
  clear hF h1 h4
  generalize maxW f ng = x at *
  go_enter Tryz.func120, Tryz.ntmps120
  go_wp2_with ((first | (refine kg gf116 hst (fun w hst => hw w (hk.out w hst.keeps)) rfl rfl rfl rfl ?_; clear hst; intro w hst) | (refine ka 4 hst tz24 rfl rfl ?_; clear hst; intro b4 w hb4 hst) | (refine kt hst ta24 rfl rfl ?_; clear hst; intro w hst)); try simp only [pz, pn, sz, sc])
  refine bp_c rfl rfl (la hst ta24) ⟨?_, hst.keeps⟩
  rfl
/-- What of an overflow is told: by mode and sign. -/
theorem overW_eq (f m : Nat) (ng : Bool) : overW f m ng = if m = 1 ∨ m = 2 ∨ growsB m ng false 3 = true then infW f ng else maxW f ng := by
  unfold overW infW maxW
  split <;> rfl

set_option maxHeartbeats 2000000 in
theorem pack_over (f : Nat) (h1 : 1 ≤ f) (h4 : f ≤ 4) (m : Nat) (m1 : 1 ≤ m) (m5 : m ≤ 5) (ng : Bool) (w0 : World) (hF : FmtIn w0) : GivesAt Tryz.prog 96 #[.int .i64 f, .int .i64 m, .bool ng] (.tuple #[Wd (overW f m ng), .int .i64 20]) w0 := by
  have hst := St.start [] w0
  have hk := Lib.hid (fun w (k : Keeps [] w0 w) => hF.keep k (by simp))
  have hin := fun w h => format_Inf f h1 h4 ng w h
  have hmx := fun w h => format_Max f h1 h4 ng w h
  have hgr := mode_Grows m m1 m5 ng false 3 (by omega)
  rw [overW_eq]
  by_cases e1 : m = 1
  · rw [if_pos (.inl e1)]
    subst e1
    clear hF h1 h4 hmx hgr
    generalize infW f ng = x at *
    go_enter Tryz.func96, Tryz.ntmps96
    go_wp2_with ((first | (refine kg gf119 hst (fun w hst => hin w (hk.out w hst.keeps)) rfl rfl rfl rfl ?_; clear hst; intro w hst) | (refine ka 6 hst tz24 rfl rfl ?_; clear hst; intro b6 w hb6 hst) | (refine kt hst ta24 rfl rfl ?_; clear hst; intro w hst)); try simp only [pz, pn, sz, sc])
    refine bp_ct rfl rfl (la hst ta24) (by rfl) ⟨?_, hst.keeps⟩
    rfl
  · by_cases e2 : m = 2
    · rw [if_pos (.inr (.inl e2))]
      subst e2
      clear hF h1 h4 hmx hgr
      generalize infW f ng = x at *
      go_enter Tryz.func96, Tryz.ntmps96
      go_wp2_with ((first | (refine kg gf119 hst (fun w hst => hin w (hk.out w hst.keeps)) rfl rfl rfl rfl ?_; clear hst; intro w hst) | (refine wl_guard (by rfl) ?_) | (refine ka 6 hst tz24 rfl rfl ?_; clear hst; intro b6 w hb6 hst) | (refine kt hst ta24 rfl rfl ?_; clear hst; intro w hst)); try simp only [pz, pn, sz, sc])
      refine bp_ct rfl rfl (la hst ta24) (by rfl) ⟨?_, hst.keeps⟩
      rfl
    · have q1 : ((m : Int) == 1) = false := by simp; omega
      have q2 : ((m : Int) == 2) = false := by simp; omega
      cases hg : growsB m ng false 3
      · rw [if_neg (by rintro (h | h | h); exact e1 h; exact e2 h; cases h)]
        rw [hg] at hgr
        clear hF h1 h4 hin hg e1 e2
        generalize maxW f ng = x at *
        go_enter Tryz.func96, Tryz.ntmps96
        go_wp2_with ((first | (refine kf gf118 hst (hgr) rfl rfl rfl rfl ?_; clear hst; intro w hst) | (refine kg gf120 hst (fun w hst => hmx w (hk.out w hst.keeps)) rfl rfl rfl rfl ?_; clear hst; intro w hst) | (refine wl_guard (by rfl) ?_) | (refine ka 6 hst tz24 rfl rfl ?_; clear hst; intro b6 w hb6 hst) | (refine kt hst ta24 rfl rfl ?_; clear hst; intro w hst)); try simp only [pz, pn, sz, sc])
        refine bp_ct rfl rfl (la hst ta24) (by rfl) ⟨?_, hst.keeps⟩
        rfl
      · rw [if_pos (.inr (.inr rfl))]
        rw [hg] at hgr
        clear hF h1 h4 hmx hg e1 e2
        generalize infW f ng = x at *
        go_enter Tryz.func96, Tryz.ntmps96
        go_wp2_with ((first | (refine kf gf118 hst (hgr) rfl rfl rfl rfl ?_; clear hst; intro w hst) | (refine kg gf119 hst (fun w hst => hin w (hk.out w hst.keeps)) rfl rfl rfl rfl ?_; clear hst; intro w hst) | (refine wl_guard (by rfl) ?_) | (refine ka 6 hst tz24 rfl rfl ?_; clear hst; intro b6 w hb6 hst) | (refine kt hst ta24 rfl rfl ?_; clear hst; intro w hst)); try simp only [pz, pn, sz, sc])
        refine bp_ct rfl rfl (la hst ta24) (by rfl) ⟨?_, hst.keeps⟩
        rfl

end Go.Proofs.YtefpoconpeggpaaGreatDoor.Rd

namespace Go.Proofs.YtefpoconpeggpaaGreatDoor.Rd
open Go Go.RowKit
set_option linter.unusedVariables false
set_option linter.unusedSimpArgs false
set_option maxRecDepth 100000

theorem norm_sig (p u : Nat) (h1 : 2 ^ (p - 1) ≤ u) (h2 : u ≤ 2 ^ p) (hp : 1 ≤ p) (hp2 : p ≤ 500) : u * 2 ^ clampN ((p : Int) - (bl u : Int)) % M / 2 ^ clampN (-((p : Int) - (bl u : Int))) = u * 2 ^ p / 2 ^ bl u ∧ u * 2 ^ p / 2 ^ bl u < 2 ^ p ∧ p ≤ bl u ∧ bl u ≤ p + 1 := by
  have hb1 : p ≤ bl u := by
    rcases Nat.lt_or_ge (bl u) p with h | h
    · have := bl_le.1 (show bl u ≤ p - 1 by omega)
      omega
    · exact h
  have hb2 : bl u ≤ p + 1 := by
    apply bl_le.2
    have : 2 ^ p < 2 ^ (p + 1) := Nat.pow_lt_pow_right (by omega) (by omega)
    omega
  have huM : u < M := Nat.lt_of_le_of_lt h2 (small_M2 p hp2)
  have hlt := (bl_spec u).1
  refine ⟨?_, ?_, hb1, hb2⟩
  · rcases (show bl u = p ∨ bl u = p + 1 by omega) with h | h
    · rw [h]
      have e1 : clampN ((p : Int) - (p : Int)) = 0 := by unfold clampN; rw [if_neg (by omega), if_neg (by omega)]; omega
      have e2 : clampN (-((p : Int) - (p : Int))) = 0 := by unfold clampN; rw [if_neg (by omega), if_neg (by omega)]; omega
      rw [e1, e2, Nat.pow_zero, Nat.mul_one, Nat.div_one, Nat.mod_eq_of_lt huM, Nat.mul_div_cancel _ (Nat.pow_pos (by omega))]
    · rw [h]
      have e1 : clampN ((p : Int) - ((p + 1 : Nat) : Int)) = 0 := by unfold clampN; rw [if_pos (by omega)]
      have e2 : clampN (-((p : Int) - ((p + 1 : Nat) : Int))) = 1 := by unfold clampN; rw [if_neg (by omega), if_neg (by omega)]; omega
      rw [e1, e2, Nat.pow_zero, Nat.mul_one, Nat.pow_one, Nat.mod_eq_of_lt huM, Nat.pow_succ, Nat.mul_comm (2 ^ p) 2]
      exact (Nat.mul_div_mul_right _ _ (Nat.pow_pos (by omega))).symm
  · rw [Nat.div_lt_iff_lt_mul (Nat.pow_pos (by omega)), Nat.mul_comm]
    exact Nat.mul_lt_mul_of_pos_left hlt (Nat.pow_pos (by omega))

set_option maxHeartbeats 8000000 in
theorem pack_Round_in (f : Nat) (f1 : 1 ≤ f) (f4 : f ≤ 4) (m : Nat) (m1 : 1 ≤ m) (m5 : m ≤ 5) (ng : Bool) (e : Int) (n : Nat) (he1 : -1000000 ≤ e) (he2 : e ≤ 1000000) (hn : bl n ≤ 511) (hb : fP f < bl n) (more : Bool) (tp : Int)
    (htp : tp = e + (bl n - fP f : Nat) + bl (cutN n (bl n - fP f) more m ng) - 1) (ht1 : 1 - (fE f : Int) ≤ tp) (ht2 : tp ≤ (fE f : Int)) (w0 : World) (hF : FmtIn w0) :
    GivesAt Tryz.prog 63 #[.int .i64 f, .int .i64 m, .agg (nbC ng e n), .bool more]
      (.tuple #[Wd (encW f ng (tp - (1 - (fE f : Int))).toNat (cutN n (bl n - fP f) more m ng * 2 ^ fP f / 2 ^ bl (cutN n (bl n - fP f) more m ng))), .int .i64 (if decide (restN n (bl n - fP f) more ≠ 0) then 16 else 0), .int .i64 0]) w0 := by
  have hst := St.start [] w0
  have hk := Lib.hid (fun w (k : Keeps [] w0 w) => hF.keep k (by simp))
  have hof := fun w h => format_Of f f1 f4 w h
  have hP := fP_in f
  have hE := fE_in f
  have his := mode_Is_yes m (by omega) (by omega)
  have hri := pack_Right (fP f) (by omega) (by omega) ng e n (by omega) (by omega) hn more (fun _ => hb)
  have hdg := pack_digits_cut (fP f) (by omega) (by omega) m m1 m5 ng e n (by omega) (by omega) hn hb more
  obtain ⟨c1, c2⟩ := cutN_range n (fP f) more m ng (by omega) hb
  have hfl := pack_flagged (decide (restN n (bl n - fP f) more ≠ 0)) 16
  obtain ⟨pl, hpl⟩ : ∃ pl : Int, pl = e + (bl n - fP f : Nat) := ⟨_, rfl⟩
  rw [← hpl] at hdg htp
  obtain ⟨u, hu⟩ : ∃ u, u = cutN n (bl n - fP f) more m ng := ⟨_, rfl⟩
  rw [← hu] at hdg htp c1 c2 ⊢
  obtain ⟨n1, n2, n3, n4⟩ := norm_sig (fP f) u c1 c2 (by omega) (by omega)
  have huM : u < M := Nat.lt_of_le_of_lt c2 (small_M2 _ (by omega))
  have hlen := wide_Len u huM
  have hshl := wide_Shl u ((fP f : Int) - (bl u : Int)) huM
  have hshr := wide_Shr (u * 2 ^ clampN ((fP f : Int) - (bl u : Int)) % M) (-((fP f : Int) - (bl u : Int))) (Nat.mod_lt _ M_pos)
  rw [n1] at hshr
  obtain ⟨j, hj⟩ : ∃ j : Nat, j = (tp - (1 - (fE f : Int))).toNat := ⟨_, rfl⟩
  have hjo := fun w h => pack_joined f f1 f4 ng j (u * 2 ^ fP f / 2 ^ bl u) (Nat.le_of_lt n2) (by
    have a : u * 2 ^ fP f / 2 ^ bl u / 2 ^ (fP f - 1) < 2 := by
      rw [Nat.div_lt_iff_lt_mul (Nat.pow_pos (by omega))]
      have b : 2 ^ fP f = 2 * 2 ^ (fP f - 1) := by
        obtain ⟨q, hq⟩ : ∃ q, fP f = q + 1 := ⟨fP f - 1, by omega⟩
        rw [hq, Nat.add_sub_cancel, Nat.pow_succ]; omega
      omega
    omega) w h
  rw [← hj]
  have hn0 : n ≠ 0 := fun h => by rw [h, bl_zero] at hb; omega
  have Q0 : decide (n = 0) = false := by simpa using hn0
  have hM := M_pos
  have hnM := M_bl hn
  have E1 : pl + (bl u : Int) - 1 = tp := by omega
  have E2 : pl - (tp - (fP f : Int) + 1) = (fP f : Int) - (bl u : Int) := by omega
  have E3 : tp - (1 - (fE f : Int)) = (j : Int) := by omega
  have q1 : ¬ (fE f : Int) < tp := by omega
  have q2 : ¬ tp < 1 - (fE f : Int) := by omega
  have pl1 : -2000000 ≤ pl := by omega
  have pl2 : pl ≤ 2000000 := by omega
  have z1 := fmC_size f
  have z2 := fmC_one f
  have g1 : (fmC f)[0 + 1]? = some (.int .i64 (fP f : Nat)) := rfl
  have g2 : (fmC f)[0 + 2]? = some (.int .i64 (fE f : Nat)) := rfl
  have g3 : (fmC f)[0 + 3]? = some (.int .i64 (1 - (fE f : Int))) := rfl
  have y1 := nbC_size ng e n
  have y2 := nbC_one ng e n
  have y0 := nbC_0 ng e n
  have hpt : Part (nbC ng e n) (wc 8 n) (nbC ng e n) (wc 8 n) 2 := part1 2 _ _ _ rfl rfl
  clear hF hb c1 c2 htp hpl hu n1 n2 huM hj ht1 ht2 hn hn0 he1 he2
  generalize encW f ng j (u * 2 ^ fP f / 2 ^ bl u) = res at *
  generalize u * 2 ^ fP f / 2 ^ bl u = sg at *
  generalize u * 2 ^ clampN ((fP f : Int) - (bl u : Int)) % M = ush at *
  generalize decide (restN n (bl n - fP f) more ≠ 0) = ix at *
  generalize (!decide (sg * 2 ^ clampN (-((fP f : Int) - (bl u : Int))) = ush)) = bb at *
  generalize (if ix = true then (16 : Int) else 0) = fl at *
  generalize nbC ng e n = cn at *
  generalize fmC f = cs at *
  generalize bl u = ku at *
  generalize fP f = p at *
  generalize fE f = E at *
  go_enter Tryz.func63, Tryz.ntmps63
  go_wp2_with ((first | (refine kg gf70 hst (fun w hst => hof w (hk.out w hst.keeps)) rfl rfl rfl rfl ?_; clear hst; intro w hst) | (refine kf gf62 hst (his) rfl rfl rfl rfl ?_; clear hst; intro w hst) | (refine kf gf93 hst (hri) rfl rfl rfl rfl ?_; clear hst; intro w hst) | (refine kf gf95 hst (hdg) rfl rfl rfl rfl ?_; clear hst; intro w hst) | (refine kf gf47 hst (hlen) rfl rfl rfl rfl ?_; clear hst; intro w hst) | (refine kf gf48 hst (hshl) rfl rfl rfl rfl ?_; clear hst; intro w hst) | (refine kf gf87 hst (hshr) rfl rfl rfl rfl ?_; clear hst; intro w hst) | (refine kg gf98 hst (fun w hst => hjo w (hk.out w hst.keeps)) rfl rfl rfl rfl ?_; clear hst; intro w hst) | (refine kf gf99 hst (hfl) rfl rfl rfl rfl ?_; clear hst; intro w hst) | (refine klm hst ta44 rfl ?_ (hc := hpt)) | (refine wl_guard (by rfl) ?_) | (refine kb 6 hst rfl rfl ?_; clear hst; intro b6 w hb6 hst) | (refine ka 8 hst tz24 rfl rfl ?_; clear hst; intro b8 w hb8 hst) | (refine ka 11 hst tz128 rfl rfl ?_; clear hst; intro b11 w hb11 hst) | (refine kt hst ta128 rfl rfl ?_; clear hst; intro w hst) | (refine kc hst tc3 rfl ?_) | (refine kl hst ta46 rfl ?_) | (refine kt hst ta24 rfl rfl ?_; clear hst; intro w hst) | (refine kl hst ta44 rfl ?_) | (refine ke tr44 tc22 rfl ?_) | (refine kc hst tc4 rfl ?_) | (refine ka 13 hst tz44 rfl rfl ?_; clear hst; intro b13 w hb13 hst) | (refine kt hst ta44 rfl rfl ?_; clear hst; intro w hst)); try simp only [pz, pn, sz, sc])
  refine bp_ctt rfl rfl (la hst ta24) (by rfl) (by rfl) ⟨?_, hst.keeps⟩
  rfl

end Go.Proofs.YtefpoconpeggpaaGreatDoor.Rd
