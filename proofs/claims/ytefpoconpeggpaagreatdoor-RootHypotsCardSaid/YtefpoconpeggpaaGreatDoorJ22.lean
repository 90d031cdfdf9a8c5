/- What ref07.Of, ref09.floor, ref08.Grows, ref25.Real answer. -/
import Derived.Test.YtefpoconpeggpaaGreatDoorJ21
import Derived.Test.YtefpoconpeggpaaGreatDoorJ04
import Derived.Test.YtefpoconpeggpaaGreatDoorJ11
namespace Go.Proofs.YtefpoconpeggpaaGreatDoor.Rd
set_option linter.unusedVariables false

/-- c m k tells how m times 2^k stands to a number that lies, in units of 2^e, at r, or (s) between r and r + 1. -/
def KnC (c : Nat → Int → Int) (e : Int) (r : Nat) (s : Bool) : Prop := ∀ (m : Nat) (b : Nat), (c m (e + b) < 0 ↔ (m * 2 ^ b < r ∨ (m * 2 ^ b = r ∧ s = true))) ∧ (c m (e + b) = 0 ↔ (m * 2 ^ b = r ∧ s = false))
section
variable {c : Nat → Int → Int} {e : Int} {r : Nat} {s : Bool}
theorem KnC.le (h : KnC c e r s) (m b : Nat) : c m (e + b) ≤ 0 ↔ m ≤ r / 2 ^ b := by
  obtain ⟨h1, h2⟩ := h m b
  rw [Nat.le_div_iff_mul_le (Nat.pow_pos (by omega))]
  constructor
  · intro h
    rcases Int.lt_or_eq_of_le h with h | h
    · rcases h1.1 h with h | h <;> omega
    · have := (h2.1 h).1; omega
  · intro hq
    rcases Nat.lt_or_eq_of_le hq with hq | hq
    · have := h1.2 (.inl hq); omega
    · by_cases hs : s = true
      · have := h1.2 (.inr ⟨hq, hs⟩); omega
      · have := h2.2 ⟨hq, by simpa using hs⟩; omega
theorem KnC.eq (h : KnC c e r s) (b : Nat) : c (r / 2 ^ b) (e + b) = 0 ↔ (r % 2 ^ b = 0 ∧ s = false) := by
  rw [(h (r / 2 ^ b) b).2]
  have := Nat.div_add_mod r (2 ^ b)
  rw [Nat.mul_comm] at this
  constructor
  · rintro ⟨h1, h2⟩; exact ⟨by omega, h2⟩
  · rintro ⟨h1, h2⟩; exact ⟨by omega, h2⟩
theorem KnC.mid (h : KnC c e r s) (b : Nat) : max (-1) (min 1 (c (2 * (r / 2 ^ (b + 1)) + 1) (e + b))) = midC r b s := by
  obtain ⟨h1, h2⟩ := h (2 * (r / 2 ^ (b + 1)) + 1) b
  have hp : 0 < 2 ^ b := Nat.pow_pos (by omega)
  have hd := Nat.div_add_mod r (2 ^ b)
  have hm := Nat.mod_lt r hp
  rw [Nat.mul_comm] at hd
  unfold midC
  generalize 2 * (r / 2 ^ (b + 1)) + 1 = q at *
  generalize c q (e + b) = x at *
  generalize r / 2 ^ b = u at *
  generalize r % 2 ^ b = v at *
  generalize 2 ^ b = k at *
  rcases Nat.lt_trichotomy q u with hq | rfl | hq
  · rw [if_pos hq]
    have h3 : (q + 1) * k ≤ u * k := Nat.mul_le_mul_right _ hq
    rw [Nat.add_mul] at h3
    have := h1.2 (.inl (by omega))
    omega
  · rw [if_neg (by omega), if_neg (by omega)]
    by_cases hv : v = 0 ∧ s = false
    · rw [if_pos hv]
      have := h2.2 ⟨by omega, hv.2⟩
      omega
    · rw [if_neg hv]
      have : x < 0 := h1.2 (by
        by_cases h0 : v = 0
        · exact .inr ⟨by omega, by cases s <;> simp_all⟩
        · exact .inl (by omega))
      omega
  · rw [if_neg (by omega), if_pos hq]
    have h3 : (u + 1) * k ≤ q * k := Nat.mul_le_mul_right _ hq
    rw [Nat.add_mul] at h3
    have n1 : ¬ x < 0 := fun hx => by rcases h1.1 hx with h | h <;> omega
    have n2 : ¬ x = 0 := fun hx => by have := (h2.1 hx).1; omega
    omega
/-- What is cut off at a place, as the reference tells it. -/
theorem KnC.rest (h : KnC c e r s) (b : Nat) : (if c (r / 2 ^ (b + 1)) (e + (b + 1 : Nat)) = 0 then 0 else 2 - max (-1) (min 1 (c (2 * (r / 2 ^ (b + 1)) + 1) (e + b)))) = (restN r (b + 1) s : Int) := by
  rw [rest_mid, h.mid]
  by_cases hx : r % 2 ^ (b + 1) = 0 ∧ s = false
  · rw [if_pos hx, if_pos ((h.eq (b + 1)).2 hx)]
  · rw [if_neg hx, if_neg (fun h' => hx ((h.eq (b + 1)).1 h'))]
theorem KnC.top (h : KnC c e r s) (hr : r ≠ 0) (b : Nat) : c 1 (e + b) ≤ 0 ↔ b < bl r := by
  rw [h.le, Nat.le_div_iff_mul_le (Nat.pow_pos (by omega)), Nat.one_mul]
  have h1 := (bl_spec r).1
  have h2 := bl_lo hr
  have h3 := bl_pos hr
  constructor
  · intro h
    rcases Nat.lt_or_ge b (bl r) with h' | h'
    · exact h'
    · have : 2 ^ bl r ≤ 2 ^ b := Nat.pow_le_pow_right (by omega) h'
      omega
  · intro h
    have : 2 ^ b ≤ 2 ^ (bl r - 1) := Nat.pow_le_pow_right (by omega) (by omega)
    omega
end

/-- The root of N times 2^E, that in units of 2^e is the root of n, whose whole part is r. -/
theorem KnC.root (N : Nat) (E e : Int) (t n r : Nat) (hE : E = 2 * e + t) (hn : n = N * 2 ^ t) (h1 : r * r ≤ n) (h2 : n < (r + 1) * (r + 1)) : KnC (fun m k => szC (m * m) (2 * k) N E) e r (decide (r * r ≠ n)) := by
  intro m b
  dsimp only
  obtain ⟨a1, a2⟩ := szC_sign (m * m) (2 * (e + b)) N E
  obtain ⟨h3, h4⟩ := scale_lt (m * m) N (2 * (e + b)) E (2 * e) (by omega) (by omega)
  rw [a1, a2, h3, h4, show (2 * (e + (b : Int)) - 2 * e).toNat = b + b by omega, show (E - 2 * e).toNat = t by omega, ← hn, Nat.pow_add]
  have em : m * m * (2 ^ b * 2 ^ b) = m * 2 ^ b * (m * 2 ^ b) := by grind
  rw [em]
  generalize m * 2 ^ b = x
  have hs : ∀ a b : Nat, a < b → a * a < b * b := fun a b h => Nat.mul_self_lt_mul_self h
  constructor
  · constructor
    · intro h
      rcases Nat.lt_trichotomy x r with h' | h' | h'
      · exact .inl h'
      · subst h'; exact .inr ⟨rfl, by simp; omega⟩
      · have := Nat.mul_self_le_mul_self (show r + 1 ≤ x from h'); omega
    · rintro (h | ⟨rfl, h⟩)
      · have := hs x r h; omega
      · simp at h; omega
  · constructor
    · intro h
      rcases Nat.lt_trichotomy x r with h' | h' | h'
      · have := hs x r h'; omega
      · subst h'; exact ⟨rfl, by simp; exact h⟩
      · have := Nat.mul_self_le_mul_self (show r + 1 ≤ x from h'); omega
    · rintro ⟨rfl, h⟩
      simpa using h

end Go.Proofs.YtefpoconpeggpaaGreatDoor.Rd

namespace Go.Proofs.YtefpoconpeggpaaGreatDoor.Rd
set_option linter.unusedVariables false

theorem pow_lt_of (p : Nat) {a k : Nat} (h : a < 2 ^ p) : a * 2 ^ k < 2 ^ (p + k) := by
  rw [Nat.pow_add]; exact Nat.mul_lt_mul_of_pos_right h (Nat.pow_pos (by omega))
theorem le_mul_pow (p : Nat) {a k : Nat} (h : 2 ^ p ≤ a) : 2 ^ (p + k) ≤ a * 2 ^ k := by
  rw [Nat.pow_add]; exact Nat.mul_le_mul_right _ h
/-- sg: a significand of p digits; by: p + 4 or p + 5; r: the root of what is shifted up. -/
theorem radicand_in (p sg by' r : Nat) (hp : 1 ≤ p) (hp2 : p ≤ 113) (h1 : 2 ^ (p - 1) ≤ sg) (h2 : sg < 2 ^ p) (hb1 : p + 4 ≤ by') (hb2 : by' ≤ p + 5) (hr1 : r * r ≤ sg * 2 ^ by') (hr2 : sg * 2 ^ by' < (r + 1) * (r + 1)) :
    sg * 2 ^ by' < 2 ^ 256 ∧ p < bl r ∧ bl r ≤ p + 3 ∧ sg * 2 ^ by' ≠ 0 := by
  have a1 := pow_lt_of p (k := by') h2
  have a2 := le_mul_pow (p - 1) (k := by') h1
  have a3 : 2 ^ (p + by') ≤ 2 ^ 256 := Nat.pow_le_pow_right (by omega) (by omega)
  have a4 : 2 ^ (p + 1 + (p + 1)) ≤ 2 ^ (p - 1 + by') := Nat.pow_le_pow_right (by omega) (by omega)
  have a5 : 2 ^ (p + by') ≤ 2 ^ (p + 3 + (p + 3)) := Nat.pow_le_pow_right (by omega) (by omega)
  have h0 : 0 < 2 ^ (p - 1 + by') := Nat.pow_pos (by omega)
  rw [Nat.pow_add 2 (p + 1) (p + 1)] at a4
  rw [Nat.pow_add 2 (p + 3) (p + 3)] at a5
  have b1 : 2 ^ (p + 1) ≤ r := by
    rcases Nat.lt_or_ge r (2 ^ (p + 1)) with h | h
    · have := Nat.mul_self_le_mul_self (show r + 1 ≤ 2 ^ (p + 1) from h)
      omega
    · exact h
  have b2 : r < 2 ^ (p + 3) := by
    rcases Nat.lt_or_ge r (2 ^ (p + 3)) with h | h
    · exact h
    · have := Nat.mul_self_le_mul_self h
      omega
  refine ⟨by omega, ?_, bl_le.2 b2, by omega⟩
  rcases Nat.lt_or_ge p (bl r) with h | h
  · exact h
  · have := bl_le.1 h
    have : 2 ^ p ≤ 2 ^ (p + 1) := Nat.pow_le_pow_right (by omega) (by omega)
    omega

end Go.Proofs.YtefpoconpeggpaaGreatDoor.Rd

namespace Go.Proofs.YtefpoconpeggpaaGreatDoor.Rd
set_option linter.unusedVariables false

/-- A number's digits from a place on. -/
def hig (r j : Nat) : Nat := r / 2 ^ j * 2 ^ j
theorem hig_step (r j : Nat) : (hig r (j + 1) + 2 ^ j ≤ r → hig r j = hig r (j + 1) + 2 ^ j) ∧ (¬ hig r (j + 1) + 2 ^ j ≤ r → hig r j = hig r (j + 1)) := by
  unfold hig
  have hp : 0 < 2 ^ j := Nat.pow_pos (by omega)
  have e : r / 2 ^ (j + 1) = r / 2 ^ j / 2 := by rw [Nat.pow_succ, Nat.div_div_eq_div_mul]
  have h1 := Nat.div_add_mod r (2 ^ j)
  have h2 := Nat.mod_lt r hp
  rw [e, Nat.pow_succ]
  generalize r / 2 ^ j = x at *
  generalize r % 2 ^ j = y at *
  generalize 2 ^ j = p at *
  have h3 := Nat.div_add_mod x 2
  have h4 := Nat.mod_lt x (show 0 < 2 by omega)
  have e2 : x / 2 * (p * 2) = 2 * (x / 2) * p := by grind
  rw [e2]
  generalize x / 2 = z at *
  rcases (show x % 2 = 0 ∨ x % 2 = 1 by omega) with h | h
  · have hx : x = 2 * z := by omega
    subst hx
    have e3 : p * (2 * z) = 2 * z * p := Nat.mul_comm _ _
    exact ⟨fun h' => by omega, fun _ => rfl⟩
  · have hx : x = 2 * z + 1 := by omega
    subst hx
    have e3 : p * (2 * z + 1) = 2 * z * p + p := by grind
    have e4 : (2 * z + 1) * p = 2 * z * p + p := by grind
    exact ⟨fun _ => by omega, fun h' => by omega⟩
theorem hig_le (r j : Nat) : hig r j ≤ r := Nat.div_mul_le_self _ _
theorem hig_zero (r : Nat) : hig r 0 = r := by unfold hig; rw [Nat.pow_zero, Nat.div_one, Nat.mul_one]
theorem hig_top (r j : Nat) (h : r < 2 ^ j) : hig r j = 0 := by unfold hig; rw [Nat.div_eq_of_lt h, Nat.zero_mul]
theorem hig_add_lt (r k j : Nat) (h : r < 2 ^ k) (hj : j < k) : hig r (j + 1) + 2 ^ j < 2 ^ k := by
  have hp : 0 < 2 ^ j := Nat.pow_pos (by omega)
  have h1 : r / 2 ^ (j + 1) < 2 ^ (k - (j + 1)) := by
    rw [Nat.div_lt_iff_lt_mul (Nat.pow_pos (by omega)), ← Nat.pow_add]
    rw [show k - (j + 1) + (j + 1) = k by omega]; exact h
  have h2 : (r / 2 ^ (j + 1) + 1) * 2 ^ (j + 1) ≤ 2 ^ (k - (j + 1)) * 2 ^ (j + 1) := Nat.mul_le_mul_right _ h1
  rw [← Nat.pow_add, show k - (j + 1) + (j + 1) = k by omega, Nat.add_mul, Nat.one_mul, Nat.pow_succ] at h2
  unfold hig
  rw [Nat.pow_succ]
  omega
/-- The exponent of the least unit. -/
def eLo (f : Nat) : Int := 2 - (fE f : Int) - fP f
/-- What a word stands for, held against a number: at any exponent that isn't above. -/
theorem szC_word (f w : Nat) (u : Nat) (pl l : Int) (h1 : l ≤ eLo f) (h2 : l ≤ pl) (we : Int) (hwe : we = ((wField f w - 1 : Nat) : Int) + (1 - (fE f : Int)) - fP f + 1) :
    (szC (wSig f w) we u pl ≤ 0 ↔ wV f w * 2 ^ (eLo f - l).toNat ≤ u * 2 ^ (pl - l).toNat) ∧ (szC (wSig f w) we u pl = 0 ↔ wV f w * 2 ^ (eLo f - l).toNat = u * 2 ^ (pl - l).toNat) := by
  obtain ⟨a1, a2⟩ := szC_sign (wSig f w) we u pl
  have hl : l ≤ we := by unfold eLo at h1; omega
  obtain ⟨b1, b2⟩ := scale_lt (wSig f w) u we pl l hl h2
  have e : wSig f w * 2 ^ (we - l).toNat = wV f w * 2 ^ (eLo f - l).toNat := by
    unfold wV
    rw [Nat.mul_assoc, ← Nat.pow_add]
    congr 2
    unfold eLo at *
    omega
  rw [e] at b1 b2
  constructor
  · constructor
    · intro h
      rcases Int.lt_or_eq_of_le h with h | h
      · exact Nat.le_of_lt (b1.1 (a1.1 h))
      · exact Nat.le_of_eq (b2.1 (a2.1 h))
    · intro h
      rcases Nat.lt_or_eq_of_le h with h | h
      · exact Int.le_of_lt (a1.2 (b1.2 h))
      · exact Int.le_of_eq (a2.2 (b2.2 h))
  · rw [a2, b2]

/-- M' is the greatest finite word, without its sign, that isn't above u times 2^pl. -/
def IsFind (f u : Nat) (pl : Int) (M' : Nat) : Prop := M' < (2 * fE f + 1) * 2 ^ (fP f - 1) ∧ ∀ w, w < 2 ^ (fB f - 1) → ∀ we : Int, we = ((wField f w - 1 : Nat) : Int) + (1 - (fE f : Int)) - fP f + 1 → ((wFin f w = true ∧ szC (wSig f w) we u pl ≤ 0) ↔ w ≤ M')
/-- A number that just is a word's. -/
theorem IsFind.exact (f u : Nat) (pl l : Int) (M' : Nat) (h1 : l ≤ eLo f) (h2 : l ≤ pl) (hM : M' < (2 * fE f + 1) * 2 ^ (fP f - 1)) (he : wV f M' * 2 ^ (eLo f - l).toNat = u * 2 ^ (pl - l).toNat) : IsFind f u pl M' := by
  refine ⟨hM, fun w hw we hwe => ?_⟩
  rw [(szC_word f w u pl l h1 h2 we hwe).1, ← he, Nat.mul_le_mul_right_iff (Nat.pow_pos (by omega))]
  exact find_exact f hw hM

/-- What is rounded is just a word's: by the number's digits and their place. -/
theorem rnd_find (f m : Nat) (neg : Bool) (e : Int) (r : Nat) (s : Bool) (hb : fP f < bl r) (tp : Int) (htp : tp = e + bl r - fP f + bl (cutN r (bl r - fP f) s m neg) - 1) (h1 : 1 - (fE f : Int) ≤ tp) (h2 : tp ≤ (fE f : Int)) :
    IsFind f (cutN r (bl r - fP f) s m neg) (e + (bl r - fP f : Nat)) (wEnc f (tp - (1 - (fE f : Int))).toNat (cutN r (bl r - fP f) s m neg * 2 ^ fP f / 2 ^ bl (cutN r (bl r - fP f) s m neg))) := by
  have hP := fP_in f
  have hE := fE_in f
  obtain ⟨c1, c2⟩ := cutN_range r (fP f) s m neg (by omega) hb
  generalize hu : cutN r (bl r - fP f) s m neg = u at *
  clear hu
  have ep : 2 ^ fP f = 2 * 2 ^ (fP f - 1) := by
    obtain ⟨q, hq⟩ : ∃ q, fP f = q + 1 := ⟨fP f - 1, by omega⟩
    rw [hq, Nat.add_sub_cancel, Nat.pow_succ]; omega
  obtain ⟨j, hj⟩ : ∃ j : Nat, j = (tp - (1 - (fE f : Int))).toNat := ⟨_, rfl⟩
  rw [← hj]
  by_cases hu : u = 2 ^ fP f
  · subst hu
    have hbu : bl (2 ^ fP f) = fP f + 1 := bl_pow _
    rw [hbu] at htp ⊢
    have es : 2 ^ fP f * 2 ^ fP f / 2 ^ (fP f + 1) = 2 ^ (fP f - 1) := by
      rw [← Nat.pow_add, Nat.pow_div (by omega) (by omega)]
      congr 1; omega
    rw [es]
    have hlt : 2 ^ (fP f - 1) < 2 ^ fP f := Nat.pow_lt_pow_right (by omega) (by omega)
    refine IsFind.exact f _ _ (eLo f - 1) _ (by omega) (by unfold eLo; omega) (wEnc_fin f j _ (by omega) hlt) ?_
    rw [wEnc_V f j _ (by omega) hlt (.inr (Nat.le_refl _)), show (eLo f - (eLo f - 1)).toNat = 1 by omega, ← Nat.pow_add, ← Nat.pow_add, ← Nat.pow_add]
    congr 1
    unfold eLo; omega
  · have hbu : bl u = fP f := by
      have : bl u = fP f - 1 + 1 := bl_range c1 (by rw [show fP f - 1 + 1 = fP f by omega]; omega)
      omega
    rw [hbu] at htp ⊢
    rw [Nat.mul_div_cancel _ (Nat.pow_pos (by omega))]
    refine IsFind.exact f _ _ (eLo f) _ (by omega) (by unfold eLo; omega) (wEnc_fin f j _ (by omega) (by omega)) ?_
    rw [wEnc_V f j _ (by omega) (by omega) (.inr c1), show (eLo f - eLo f).toNat = 0 by omega, Nat.pow_zero, Nat.mul_one]
    congr 2
    unfold eLo; omega
/-- Below the normal numbers. -/
theorem rnd_find0 (f u : Nat) (hu : u ≤ 2 ^ fP f) : IsFind f u (eLo f) (wEnc f 0 u) := by
  obtain ⟨a, b⟩ := wEnc_V0 f u hu
  refine IsFind.exact f u _ (eLo f) _ (by omega) (by omega) a ?_
  rw [b]

end Go.Proofs.YtefpoconpeggpaaGreatDoor.Rd

namespace Go.Proofs.YtefpoconpeggpaaGreatDoor.Rd
set_option linter.unusedVariables false

/-- What a text of signs is worth. -/
def sv (l : List UInt8) : Nat := l.foldl (fun a c => 2 * a + (if c = 49 then 1 else 0)) 0
theorem sv_snoc (l : List UInt8) (c : UInt8) : sv (l ++ [c]) = 2 * sv l + (if c = 49 then 1 else 0) := by simp [sv]
theorem sv_from (l : List UInt8) : ∀ a, l.foldl (fun a c => 2 * a + (if c = (49 : UInt8) then 1 else 0)) a = a * 2 ^ l.length + sv l := by
  induction l with
  | nil => intro a; simp [sv]
  | cons c l ih =>
    intro a
    have h1 := ih (2 * a + (if c = 49 then 1 else 0))
    have h2 := ih (2 * 0 + (if c = 49 then 1 else 0))
    unfold sv
    simp only [List.foldl_cons, List.length_cons]
    rw [h1, h2]
    generalize (if c = 49 then 1 else 0) = b
    rw [Nat.pow_succ, Nat.add_mul, Nat.mul_zero, Nat.zero_add]
    have e : 2 * a * 2 ^ l.length = a * (2 ^ l.length * 2) := by grind
    rw [e]; omega
theorem sv_append (l k : List UInt8) : sv (l ++ k) = sv l * 2 ^ k.length + sv k := by
  have h := sv_from k (sv l)
  unfold sv at h ⊢
  rw [List.foldl_append, h]
theorem sv_lt (l : List UInt8) : sv l < 2 ^ l.length := by
  induction l with
  | nil => simp [sv]
  | cons c l ih =>
    have h := sv_append [c] l
    have e : [c] ++ l = c :: l := rfl
    rw [e] at h
    rw [h, List.length_cons, Nat.pow_succ]
    have : sv [c] ≤ 1 := by simp [sv]; split <;> omega
    have : sv [c] * 2 ^ l.length ≤ 1 * 2 ^ l.length := Nat.mul_le_mul_right _ this
    omega
theorem sv_ones (n : Nat) : sv (List.replicate n 49) = 2 ^ n - 1 := by
  induction n with
  | zero => rfl
  | succ n ih =>
    rw [List.replicate_succ', sv_snoc, ih, Nat.pow_succ]
    have : 0 < 2 ^ n := Nat.pow_pos (by omega)
    simp; omega
theorem sv_noughts (n : Nat) : sv (List.replicate n 48) = 0 := by
  induction n with
  | zero => rfl
  | succ n ih =>
    rw [List.replicate_succ', sv_snoc, ih]
    simp
/-- A sign. -/
def bitS (b : Bool) : ByteArray := if b then ⟨#[49]⟩ else ⟨#[48]⟩
theorem bitS_list (b : Bool) : (bitS b).data.toList = [if b then 49 else 48] := by cases b <;> rfl
theorem bitS_size (b : Bool) : (bitS b).size = 1 := by cases b <;> rfl
theorem sv_bit (l : List UInt8) (b : Bool) : sv (l ++ [if b then 49 else 48]) = 2 * sv l + (if b then 1 else 0) := by
  rw [sv_snoc]; cases b <;> simp

/-- The word of an infinite one. -/
def infW (f : Nat) (ng : Bool) : Nat := (2 * fE f + 1) * 2 ^ (fP f - 1) + (if ng then 2 ^ (fB f - 1) else 0)
def maxW (f : Nat) (ng : Bool) : Nat := (2 * fE f + 1) * 2 ^ (fP f - 1) - 1 + (if ng then 2 ^ (fB f - 1) else 0)
theorem top_pow (f : Nat) : 2 ^ (fB f - 1) = 2 ^ fK f * 2 ^ (fP f - 1) := by
  have := fP_in f
  rw [← Nat.pow_add, fBPK]; congr 1; omega

/-- One more sign, in two limbs. -/
theorem word_step (m b : Nat) (hm : m < 2 ^ 127) (hb : b ≤ 1) :
    lb (2 * m + b) 1 = lb m 1 * 2 + lb m 0 / 2 ^ 63 ∧ lb (2 * m + b) 0 = lb m 0 * 2 % B + b ∧ lb m 1 * 2 < B ∧ lb m 0 * 2 % B + b < B := by
  have h1 := lb_split m 1
  rw [Nat.pow_one, ← lb_zero] at h1
  have e2 : B ^ (1 + 1) = 2 ^ 128 := by decide
  have hB : B = 2 ^ 64 := rfl
  rw [e2, Nat.mod_eq_of_lt (by omega)] at h1
  have l0 := lb_lt m 0
  have l1 := lb_lt m 1
  have e3 : lb (2 * m + b) 1 = (2 * m + b) / B % B := by unfold lb; rw [Nat.pow_one]
  have e4 : lb (2 * m + b) 0 = (2 * m + b) % B := by unfold lb; rw [Nat.pow_zero, Nat.div_one]
  rw [e3, e4]
  generalize lb m 0 = x at *
  generalize lb m 1 = y at *
  rw [hB] at *
  omega

end Go.Proofs.YtefpoconpeggpaaGreatDoor.Rd

namespace Go.Proofs.YtefpoconpeggpaaGreatDoor.Rd
open Go Go.RowKit
set_option linter.unusedVariables false
set_option linter.unusedSimpArgs false
set_option maxRecDepth 100000

section
variable {P : Program} {ops : Array Oper} {rest : List Oper} {Q : Exit → Act → World → Prop} {a : Act} {w w0 : World} {S : List Nat} {L pre Lg : List (Nat × Obj)}
/-- append of two values of one cell, out of a literal. -/
theorem wl_append2 {o : Oper} {s x : Operand} {t e E' : TypeId} {z v u u' : Value} {n : Nat} {xs : List Value} {sb bytes : Nat} {fr : Nat × Nat} (hg : GRow w0 Lg e 1 v n xs) (hst : St w0 S L w) (hT : SliceT P t e) (he : ElemT P e 1 z) (hby : BytesT P e bytes)
    (hgd : o.guard = none) (ho : o.op = .call { callee := .builtin .append, args := #[s, x], argTypes := #[t, t] }) (hs : a.eval s = v) (hx : a.eval x = .slice (some ⟨sb, 0, none⟩) 2 2)
    (htl : Tl Lg L ((sb, .cells #[u, u'] E' fr) :: pre)) (h1 : u.oneCell' = true) (h1' : u'.oneCell' = true)
    (hz1 : z.cells.size = 1) (hroom : (n + 2) * bytes ≤ 140737488355328) (hroom' : n + 2 ≤ 1000000000000)
    (h : ∀ v' Lg' w', GRow w0 Lg' e 1 v' (n + 2) (xs ++ [u, u']) → St w0 S (pre ++ Lg') w' → wpList P ops Q rest (a.put o.dst v') w') : wpList P ops Q (o :: rest) a w := by
  have hL := htl.eq
  subst hL
  refine wl_append [u, u'] hg hst hT he hby hgd ho hs hx htl (src := #[u, u']) (E' := E') (fr := fr) (by simp) (by simp) (fun j u'' hv => ?_) (by simp [h1, h1']) hz1 (by omega) hroom hroom' fun v' Lg' w' hgr hst' => h v' Lg' w' hgr ?_
  · match j with
    | 0 => simpa using hv
    | 1 => simpa using hv
    | j + 2 => simp at hv
  · exact St.drop hst'
end

theorem lb_dg (n i : Nat) : dg n (2 * i) = lb n i % C ∧ dg n (2 * i + 1) = lb n i / C := by
  have hB : B = C * C := by decide
  have e1 : C ^ (2 * i) = B ^ i := by rw [hB, Nat.mul_pow, ← Nat.pow_add]; congr 1; omega
  unfold dg lb
  constructor
  · rw [e1, hB, Nat.mod_mul_left_mod]
  · rw [Nat.pow_succ, e1, ← Nat.div_div_eq_div_mul, hB, Nat.mod_mul_right_div_self]

set_option maxHeartbeats 8000000 in
theorem ref01_Of (b len cap n : Nat) (E : TypeId) (fr : Nat × Nat) (hl : len ≤ 50000) (hn : n < B ^ len) (w0 : World) (hb : w0.heap[b]? = some (.cells (wc len n) E fr)) : GivesB Tryz.prog 65 #[.slice (some ⟨b, 0, none⟩) len cap] n w0 := by
  have hst := (St.start [] w0).add hb (by simp)
  have hown : ∀ w, Keeps [] w0 w → w.heap[b]? = some (.cells (wc len n) E fr) := fun w k => by rw [k.block b (lt_of_some hb) (by simp)]; exact hb
  clear hb
  go_enter Tryz.func65, Tryz.ntmps65
  go_wp2_with fail
  go_loopw [4, 3] (fun vi vo wr => ∃ (i : Nat) (Lg : List (Nat × Obj)), i ≤ len ∧ vi = .int .i64 i ∧ GRow w0 Lg 72 1 vo (2 * i) (uc (2 * i) (n % C ^ (2 * i))) ∧ St w0 [] ((b, .cells (wc len n) E fr) :: Lg) wr) (fun vi _ _ => len - (intOf vi).toNat)
  case atStart => exact ⟨0, [], by omega, by go_num, GRow.nil _ _ _, hst⟩
  case round =>
    clear hst
    obtain ⟨i, Lg, hi, rfl, hgr, hst⟩ := hrel
    by_cases hlt : i < len
    · obtain ⟨e1, e2⟩ := lb_dg n i
      have s1 := uc_snoc (n % C ^ (2 * i)) (dg n (2 * i)) (2 * i) (Nat.mod_lt _ (Cp_pos _)) (dg_lt _ _)
      rw [← dg_split] at s1
      have s2 := uc_snoc (n % C ^ (2 * i + 1)) (dg n (2 * i + 1)) (2 * i + 1) (Nat.mod_lt _ (Cp_pos _)) (dg_lt _ _)
      rw [← dg_split, ← s1, List.append_assoc] at s2
      rw [e1, e2] at s2
      have hxB := lb_lt n i
      have hcell := wc_get len n i hlt
      obtain ⟨x, hx⟩ : ∃ x, x = lb n i := ⟨_, rfl⟩
      rw [← hx] at s2 hxB
      obtain ⟨d, hd⟩ : ∃ d, d = x % C := ⟨_, rfl⟩
      obtain ⟨p, hp⟩ : ∃ p, p = x / C := ⟨_, rfl⟩
      rw [← hd, ← hp] at s2
      have hpC : p < C := by rw [C_val] at *; rw [B_val] at hxB; omega
      have F1 : IntKind.u32.wrap ((lb n i : Nat) : Int) = (d : Int) := by rw [← hx, u32_wrap, hd]
      have F2 : ((lb n i : Nat) : Int) / 4294967296 = (p : Int) := by rw [← hx]; rw [C_val] at hp; omega
      have F3 : IntKind.u32.wrap (p : Int) = (p : Int) := by rw [u32_wrap, Nat.mod_eq_of_lt hpC]
      have s2' := Lib.hid s2
      have F1' := Lib.hid F1
      have F2' := Lib.hid F2
      have F3' := Lib.hid F3
      have h1 : (i : Int) < (len : Int) := by omega
      have h0 : (0 : Int) ≤ (i : Int) := by omega
      have hi2 : 2 * i ≤ 200000 := by omega
      have hcell' := hcell
      clear e1 e2 s1 s2 hxB hd hp hpC hi hlt hcell F1 F2 F3 hx
      go_wp2_with fail
      refine wp_region_TV 15 [(b, .cells (wc len n) E fr)] hst (by kernel_rfl) ?_; clear hst; intro w hst; (try simp only [List.length_cons, List.length_nil, Nat.reduceAdd, Array.replicate_succ, Array.replicate_zero, List.push_toArray, List.nil_append, List.cons_append])
      refine r0 0 ?_; simp only [pz, pn, sz, sc]
      refine r0 1 ?_; simp only [pz, pn, sz, sc]
      refine r0 2 ?_; simp only [pz, pn, sz, sc]
      refine r0 3 ?_; simp only [pz, pn, sz, sc]
      refine r0 6 ?_; simp only [pz, pn, sz, sc]
      refine r0 7 ?_; simp only [pz, pn, sz, sc]
      refine r0 8 ?_; simp only [pz, pn, sz, sc]
      refine rl 4 rfl ?_ (ylC tc22); simp only [pz, pn, sz, sc]
      refine r0 5 ?_; simp only [pz, pn, sz, sc]
      refine rl 9 rfl ?_ (ylC tc22); simp only [pz, pn, sz, sc]
      refine r0 10 ?_; simp only [pz, pn, sz, sc]
      refine r0 11 ?_; simp only [pz, pn, sz, sc]
      refine r1 12 ?_; (refine wl_slice2 (o := ⟨some 23, _, _, _, _, _⟩) hst ts39 te72 rfl rfl (by (simp only [eval_lit, eval_k, eval_f, eval_g, List.getD_cons_succ, List.getD_cons_zero]) <;> rfl) (by (simp only [eval_lit, eval_k, eval_f, eval_g, List.getD_cons_succ, List.getD_cons_zero]) <;> rfl) (by rfl) (by rfl) ?_; clear hst; intro b23 w hb23 hst); (try simp only [pz, pn, sz, sc]); refine re ?_
      refine r1 13 ?_; (refine wl_append2 (bytes := 4) (o := ⟨some 24, _, _, _, _, _⟩) hgr hst ts39 te72 (show BytesT _ _ _ by unfold BytesT; kernel_rfl) rfl rfl (by rfl) (by rfl) (by repeat (first | exact Tl.here | apply Tl.there)) (by rfl) (by rfl) (by rfl) (by omega) (by omega) ?_; clear hst hgr; intro v24 Lg w hgr hst; (try simp only [List.cons_append, List.nil_append] at hst); (try simp only [pz, pn, sz, sc])); (try simp only [pz, pn, sz, sc]); refine re ?_
      refine r0 14 ?_; simp only [pz, pn, sz, sc]
      refine rd_ ?_
      go_wp2_with fail
      rw [F1'.out, F2'.out, F3'.out] at hgr
      refine ⟨⟨i + 1, _, by omega, by go_num, by rw [show 2 * (i + 1) = 2 * i + 1 + 1 by omega, ← s2'.out]; exact hgr, hst⟩, ?_⟩
      simp [intOf]; omega
    · have hie : i = len := by omega
      subst hie
      have h1 : n < C ^ (2 * i) := by
        have hB : B = C * C := by decide
        have e1 : C ^ (2 * i) = B ^ i := by rw [hB, Nat.mul_pow, ← Nat.pow_add]; congr 1; omega
        rw [e1]; exact hn
      rw [Nat.mod_eq_of_lt h1] at hgr
      obtain ⟨ao, co, rfl, hat, hbi⟩ := hgr.big (L := (b, .cells (wc i n) E fr) :: Lg) h1 (by omega) (fun x h => List.mem_cons_of_mem _ h)
      have htr := fun w hst => ref01_trim ao (2 * i) co n w (hat [] w hst)
      have hi1 : ¬ ((i : Int) < (i : Int)) := by omega
      clear h1 hat hlt hi hgr hn
      go_wp2_with ((first | (refine kg gf41 hst (htr) rfl rfl rfl rfl ?_; clear hst; intro w hst)); try simp only [pz, pn, sz, sc])
      refine bp_t rfl rfl (by rfl) (PostB.of hst hbi (fun x h => List.mem_cons_of_mem _ h))

theorem ref01_Small (n : Nat) (hn : n < B) (w0 : World) : GivesB Tryz.prog 33 #[.int .u64 n] n w0 := by
  have hst := St.start [] w0
  have hof := fun (b : Nat) (w : World) (h : w.heap[b]? = some (.cells (wc 1 n) 22 (0, 0))) => ref01_Of b 1 1 n 22 (0, 0) (by omega) (by simpa using hn) w h
  have h1 := wc_1 n hn
  have h1' := Lib.hid h1
  clear h1 hn
  go_enter Tryz.func33, Tryz.ntmps33
  go_wp2_with ((first | (refine wl_callB (o := ⟨some 5, _, _, _, _, _⟩) gf65 hst (fun w hst => hof _ w (by rw [← h1'.out]; exact hst.own _ _ (by simp))) rfl rfl rfl rfl rfl ?_; clear hst; intro v5 Lg5 w hb5 hst; (try simp only [List.cons_append, List.nil_append, List.append_nil, List.append_assoc] at hst); (try simp only [pz, pn, sz, sc])) | (refine wl_slice1 (o := ⟨some 4, _, _, _, _, _⟩) hst ts123 te22 rfl rfl (by (simp only [eval_lit, eval_k, eval_f, eval_g, List.getD_cons_succ, List.getD_cons_zero]) <;> rfl) (by rfl) ?_; clear hst; intro b4 w hb4 hst)); try simp only [pz, pn, sz, sc])
  all_goals go_outline
  refine bp_t rfl rfl (by rfl) (PostB.of hst hb5 (fun x h => List.mem_cons_of_mem _ h))

end Go.Proofs.YtefpoconpeggpaaGreatDoor.Rd

namespace Go.Proofs.YtefpoconpeggpaaGreatDoor.Rd
open Go Go.RowKit
set_option linter.unusedVariables false
set_option linter.unusedSimpArgs false
set_option maxRecDepth 100000

set_option maxHeartbeats 8000000 in
theorem ref01_Add (va vb : Value) (la lb' a b : Nat) (w0 : World) (ha : BigAt w0 va la a) (hb : BigAt w0 vb lb' b) (hla : la ≤ 100000) (hlb : lb' ≤ 100000) : GivesB Tryz.prog 17 #[va, vb] (a + b) w0 := by
  have hst := St.start [] w0
  have hda := fun (i : Nat) (hi : i ≤ 1000000) (w : World) (hst : Keeps [] w0 w) => ref01_digit va la a i hi w (ha.keep hst)
  have hdb := fun (i : Nat) (hi : i ≤ 1000000) (w : World) (hst : Keeps [] w0 w) => ref01_digit vb lb' b i hi w (hb.keep hst)
  obtain ⟨han, _, aa, capa, rfl, _, _⟩ := ha
  obtain ⟨hbn, _, ab, capb, rfl, _, _⟩ := hb
  obtain ⟨mx, hmx⟩ : ∃ mx, mx = max la lb' := ⟨_, rfl⟩
  have hmx' : (if (lb' : Int) ≤ (la : Int) then (la : Int) else (lb' : Int)) = (mx : Int) := by split <;> omega
  have h1 : a < C ^ mx := Nat.lt_of_lt_of_le han (Nat.pow_le_pow_right C_pos (by omega))
  have h2 : b < C ^ mx := Nat.lt_of_lt_of_le hbn (Nat.pow_le_pow_right C_pos (by omega))
  go_enter Tryz.func17, Tryz.ntmps17
  go_wp2_with fail
  go_loopw [7, 6, 5] (fun vi vc vo wr => ∃ (i c s : Nat) (Lg : List (Nat × Obj)), i ≤ mx + 1 ∧ vi = .int .i64 i ∧ vc = .int .u64 c ∧ c ≤ 1 ∧ s < C ^ i ∧ s + c * C ^ i = a % C ^ i + b % C ^ i ∧ GRow w0 Lg 72 1 vo i (uc i s) ∧ St w0 [] Lg wr) (fun vi _ _ _ => mx + 1 - (intOf vi).toNat)
  case atStart => exact ⟨0, 0, 0, [], by omega, rfl, rfl, by omega, by simp, by simp [Nat.mod_one], GRow.nil _ _ _, hst⟩
  case round =>
    clear hst
    obtain ⟨i, c, s, Lg, hi, rfl, rfl, hc, hs, he, hgr, hst⟩ := hrel
    by_cases hle : i ≤ mx
    · have hdai := hda i (by omega)
      have hdbi := hdb i (by omega)
      have hsa := dg_split a i
      have hsb := dg_split b i
      have hx := dg_lt a i
      have hy := dg_lt b i
      generalize dg a i = x at *
      generalize dg b i = y at *
      obtain ⟨t1, ht1⟩ : ∃ t1, t1 = c + x := ⟨_, rfl⟩
      obtain ⟨t2, ht2⟩ : ∃ t2, t2 = t1 + y := ⟨_, rfl⟩
      obtain ⟨r, hr⟩ : ∃ r, r = t2 % C := ⟨_, rfl⟩
      obtain ⟨q, hq⟩ : ∃ q, q = t2 / C := ⟨_, rfl⟩
      have hrC : r < C := by rw [hr]; exact Nat.mod_lt _ C_pos
      have hsn := uc_snoc s r i hs hrC
      have hsl := add_lt_C s r i hs hrC
      have hqr : C * q + r = t2 := by rw [hq, hr]; exact Nat.div_add_mod _ _
      rw [C_val] at hx hy hqr hrC hr hq
      have F1 : IntKind.u64.wrap ((c : Int) + (x : Int)) = (t1 : Int) := u64_wrap' _ t1 _ (by omega) (by rw [B_val]; omega)
      have F2 : IntKind.u64.wrap ((t1 : Int) + (y : Int)) = (t2 : Int) := u64_wrap' _ t2 _ (by omega) (by rw [B_val]; omega)
      have F3 : IntKind.u32.wrap (t2 : Int) = (r : Int) := by rw [u32_wrap, C_val, hr]
      have F4 : (t2 : Int) / 4294967296 = (q : Int) := by omega
      have hq1 : q ≤ 1 := by omega
      have he' : s + r * C ^ i + q * C ^ (i + 1) = a % C ^ (i + 1) + b % C ^ (i + 1) := by
        rw [hsa, hsb]
        have : t2 * C ^ i = c * C ^ i + x * C ^ i + y * C ^ i := by rw [ht2, ht1, Nat.add_mul, Nat.add_mul]
        have e2 : q * C ^ (i + 1) + r * C ^ i = t2 * C ^ i := by
          rw [← hqr, Nat.add_mul, Nat.pow_succ', ← Nat.mul_assoc, Nat.mul_comm q, C_val]
        omega
      have hsn' := Lib.hid hsn
      have he'' := Lib.hid he'
      have hi1 : (i : Int) ≤ (mx : Int) := by omega
      have hi2 : i ≤ 100000 := by omega
      clear he hsa hsb hx hy ht1 ht2 hr hq hqr hrC hsn he' hs hc hle hi
      go_wp2_with ((first | (refine kg gf40 hst (fun w hst => hdai w hst.keeps) rfl rfl rfl rfl ?_; clear hst; intro w hst) | (refine kg gf40 hst (fun w hst => hdbi w hst.keeps) rfl rfl rfl rfl ?_; clear hst; intro w hst) | (refine wl_append1 (bytes := 4) (o := ⟨some 30, _, _, _, _, _⟩) hgr hst ts39 te72 (show BytesT _ _ _ by unfold BytesT; kernel_rfl) rfl rfl (by rfl) (by rfl) (by repeat (first | exact Tl.here | apply Tl.there)) (by rfl) (by rfl) (by omega) (by omega) ?_; clear hst hgr; intro v30 Lg w hgr hst; (try simp only [List.cons_append, List.nil_append] at hst); (try simp only [pz, pn, sz, sc])) | (refine wl_slice1 (o := ⟨some 29, _, _, _, _, _⟩) hst ts39 te72 rfl rfl (by (simp only [eval_lit, eval_k, eval_f, eval_g, List.getD_cons_succ, List.getD_cons_zero]) <;> rfl) (by rfl) ?_; clear hst; intro b29 w hb29 hst)); try simp only [pz, pn, sz, sc])
      refine ⟨⟨i + 1, q, s + r * C ^ i, _, by omega, by go_num, rfl, hq1, hsl, he''.out, by rw [← hsn'.out]; exact hgr, hst⟩, ?_⟩
      simp [intOf]; omega
    · have hie : i = mx + 1 := by omega
      subst hie
      have hp : C ^ mx * 2 ≤ C ^ (mx + 1) := by rw [Nat.pow_succ]; exact Nat.mul_le_mul_left _ (by rw [C_val]; omega)
      rw [Nat.mod_eq_of_lt (show a < C ^ (mx + 1) by omega), Nat.mod_eq_of_lt (show b < C ^ (mx + 1) by omega)] at he
      have hc0 : c = 0 := by
        rcases Nat.eq_zero_or_pos c with h | h
        · exact h
        · have : 1 * C ^ (mx + 1) ≤ c * C ^ (mx + 1) := Nat.mul_le_mul_right _ h
          omega
      subst hc0
      rw [Nat.zero_mul, Nat.add_zero] at he
      subst he
      obtain ⟨ao, co, rfl, hat, hbi⟩ := hgr.big (L := Lg) hs (by omega) (fun x h => h)
      have htr := fun w hst => ref01_trim ao (mx + 1) co (a + b) w (hat [] w hst)
      have hi1 : ¬ ((mx : Int) + 1 ≤ (mx : Int)) := by omega
      have hi2 : ((mx + 1 : Nat) : Int) = (mx : Int) + 1 := by omega
      rw [hi2]
      clear hs hp hi hle h1 h2 hi2 hat
      go_wp2_with ((first | (refine kg gf41 hst (htr) rfl rfl rfl rfl ?_; clear hst; intro w hst)); try simp only [pz, pn, sz, sc])
      refine bp_t rfl rfl (by rfl) (PostB.of hst hbi (fun x h => h))

end Go.Proofs.YtefpoconpeggpaaGreatDoor.Rd

namespace Go.Proofs.YtefpoconpeggpaaGreatDoor.Rd
open Go Go.RowKit
set_option linter.unusedVariables false
set_option linter.unusedSimpArgs false
set_option maxRecDepth 100000

section
variable {P : Program} {ops : Array Oper} {rest : List Oper} {Q : Exit → Act → World → Prop} {a : Act} {w w0 : World} {S : List Nat} {L : List (Nat × Obj)}
theorem wl_slice0 {o : Oper} {T e : TypeId} {z : Value} (hst : St w0 S L w) (hu : SliceT P T e) (he : ElemT P e 1 z) (hg : o.guard = none) (ho : o.op = .buildSlice T 0 #[])
    (h : ∀ b w', w0.heap.size ≤ b → St w0 S ((b, .cells #[] e) :: L) w' → wpList P ops Q rest (a.put o.dst (.slice (some ⟨b, 0, none⟩) 0 0)) w') : wpList P ops Q (o :: rest) a w := by
  obtain ⟨i, hi, hisz, hz⟩ := he
  have e1 : Array.range 0 = #[] := by decide
  have hr : (Instr.buildSlice T 0 #[]).run P w = .ok (.slice (some ⟨w.heap.size, 0, none⟩) 0 0) (w.alloc (.cells #[] e)) := by
    simp [Instr.buildSlice, run_underlying (show P.underlying T = some (.slice e) from hu), sizeOf, typeInfo, hi, Instr.fill, newRow, e1]
  refine wpList_plain hg fun K hK => ?_
  unfold Oper.wp execOp
  simp only [ho, Sem.run_bind, List.map_toArray, List.map_nil, hr, Sem.run_pure, Result.andThen_ok]
  exact hK _ _ (h _ _ hst.keeps.size (hst.alloc _))
end
theorem BigIn.zero (s : Nat) (a : Option Addr) (c : Nat) : BigIn s [] (.slice a 0 c) 0 := ⟨by simp, by simp, by rw [dl_zero]; omega, a, c, rfl, by rw [dl_zero]; omega, fun h => by rw [dl_zero] at h; omega⟩
theorem dl_B (x : Nat) (h : x < B) : dl x ≤ 2 := dl_le.2 (by rw [show C ^ 2 = B from rfl]; exact h)
theorem B_pow (i : Nat) : B ^ i = 2 ^ (64 * i) := by rw [show B = 2 ^ 64 from rfl, ← Nat.pow_mul]
theorem M_C : M = C ^ 16 := by decide

theorem ref02_Power (n : Nat) (hn : n ≤ 100000) (w0 : World) : GivesB Tryz.prog 90 #[.int .i64 n] (2 ^ n) w0 := by
  have hst := St.start [] w0
  have hs := ref01_Small 1 (by decide)
  have hd := dl_B 1 (by decide)
  have hshl := fun v w (h : BigAt w v (dl 1) 1) => ref01_Shl v (dl 1) 1 n w h (by omega) hn
  rw [Nat.one_mul] at hshl
  clear hd
  go_enter Tryz.func90, Tryz.ntmps90
  go_wp2_with ((first | (refine wl_callB (o := ⟨some 3, _, _, _, _, _⟩) gf33 hst (fun w hst => hs w) rfl rfl rfl rfl rfl ?_; clear hst; intro v3 Lg3 w hb3 hst; (try simp only [List.cons_append, List.nil_append, List.append_nil, List.append_assoc] at hst); (try simp only [pz, pn, sz, sc])) | (refine wl_callB (o := ⟨some 5, _, _, _, _, _⟩) gf18 hst (fun w hst => hshl _ w (hb3.at hst (fun x h => h))) rfl rfl rfl rfl rfl ?_; clear hst; intro v5 Lg5 w hb5 hst; (try simp only [List.cons_append, List.nil_append, List.append_nil, List.append_assoc] at hst); (try simp only [pz, pn, sz, sc]))); try simp only [pz, pn, sz, sc])
  refine bp_t rfl rfl (by rfl) (PostB.of hst hb5 (fun x h => by simp [h]))

set_option maxHeartbeats 4000000 in
theorem ref02_Big (n : Nat) (hn : n < M) (w0 : World) : GivesB Tryz.prog 16 #[W n] n w0 := by
  have hst := St.start [] w0
  go_enter Tryz.func16, Tryz.ntmps16
  go_wp2_with ((first | (refine kb 1 hst rfl rfl ?_; clear hst; intro b1 w hb1 hst) | (refine wl_slice0 (o := ⟨some 5, _, _, _, _, _⟩) hst (show SliceT _ 39 72 by unfold SliceT; kernel_rfl) (show ElemT Tryz.prog 72 1 (.int .u32 0) from ElemT.of (by kernel_rfl)) rfl rfl ?_; clear hst; intro b5 w hb5 hst)); try simp only [pz, pn, sz, sc])
  go_loopw [4, 3] (fun vi vb wr => ∃ (i : Nat) (Lb : List (Nat × Obj)), i ≤ 8 ∧ vi = .int .i64 i ∧ BigIn w0.heap.size Lb vb (n % B ^ i) ∧ St w0 [] ((b1, .cells (wc 8 n) 44) :: Lb) wr) (fun vi _ _ => 8 - (intOf vi).toNat)
  case atStart => exact ⟨0, [], by omega, rfl, by rw [Nat.pow_zero, Nat.mod_one]; exact BigIn.zero _ _ _, hst.drop⟩
  case round =>
    clear hst
    obtain ⟨i, Lb, hi, rfl, hbb, hst⟩ := hrel
    by_cases hlt : i < 8
    · have h0 : (0 : Int) ≤ (i : Int) := by omega
      have h1 : (i : Int) < 8 := by omega
      have hs := ref01_Small (lb n i) (lb_lt _ _)
      have hd := dl_B (lb n i) (lb_lt _ _)
      have hshl : ∀ v w (h : BigAt w v (dl (lb n i)) (lb n i)), GivesB Tryz.prog 18 #[v, .int .i64 (64 * (i : Int))] (lb n i * B ^ i) w := fun v w h => by
        have := ref01_Shl v _ _ (64 * i) w h (by omega) (by omega)
        rw [← B_pow, show ((64 * i : Nat) : Int) = 64 * (i : Int) by omega] at this
        exact this
      have hlow : n % B ^ i < C ^ 16 := by rw [← M_C]; exact Nat.lt_of_le_of_lt (Nat.mod_le _ _) hn
      have hsum : lb n i * B ^ i < C ^ 16 := by
        rw [← M_C]
        exact Nat.lt_of_le_of_lt (Nat.le_trans (by rw [lb_split]; exact Nat.le_add_left _ _) (Nat.mod_le n (B ^ (i + 1)))) hn
      have hadd : ∀ va vb w (ha : BigAt w va (dl (n % B ^ i)) (n % B ^ i)) (hb : BigAt w vb (dl (lb n i * B ^ i)) (lb n i * B ^ i)), GivesB Tryz.prog 17 #[va, vb] (n % B ^ (i + 1)) w := fun va vb w ha hb => by
        have := ref01_Add va vb _ _ _ _ w ha hb (Nat.le_trans (dl_le.2 hlow) (by omega)) (Nat.le_trans (dl_le.2 hsum) (by omega))
        rwa [← lb_split] at this
      clear hd hlow hsum hi hlt
      go_wp2_with ((first | (refine wl_callB (o := ⟨some 14, _, _, _, _, _⟩) gf33 hst (fun w hst => hs w) rfl rfl rfl rfl rfl ?_; clear hst; intro v14 Lg14 w hb14 hst; (try simp only [List.cons_append, List.nil_append, List.append_nil, List.append_assoc] at hst); (try simp only [pz, pn, sz, sc])) | (refine wl_callB (o := ⟨some 17, _, _, _, _, _⟩) gf18 hst (fun w hst => hshl _ w (hb14.at hst (fun x h => by simp [h]))) rfl rfl rfl rfl rfl ?_; clear hst; intro v17 Lg17 w hb17 hst; (try simp only [List.cons_append, List.nil_append, List.append_nil, List.append_assoc] at hst); (try simp only [pz, pn, sz, sc])) | (refine wl_callB (o := ⟨some 18, _, _, _, _, _⟩) gf17 hst (fun w hst => hadd _ _ w (hbb.at hst (fun x h => by simp [h])) (hb17.at hst (fun x h => by simp [h]))) rfl rfl rfl rfl rfl ?_; clear hst; intro v18 Lg18 w hb18 hst; (try simp only [List.cons_append, List.nil_append, List.append_nil, List.append_assoc] at hst); (try simp only [pz, pn, sz, sc])) | (refine kc hst tc22 rfl ?_)); try simp only [pz, pn, sz, sc])
      go_roundw
      case rel => exact ⟨i + 1, Lg18, by omega, by go_num, hb18, hst.sub (by repeat (first | exact List.Sublist.refl _ | refine List.Sublist.cons_cons _ ?_ | refine List.Sublist.trans ?_ (List.sublist_append_right _ _)))⟩
      case measure => simp [intOf]; omega
    · have hie : i = 8 := by omega
      subst hie
      rw [← M_eq, Nat.mod_eq_of_lt hn] at hbb
      have hi1 : ¬ ((8 : Int) < 8) := by omega
      go_wp2_with fail
      refine bp_t rfl rfl (by rfl) (PostB.of hst hbb (fun x h => by simp [h]))

end Go.Proofs.YtefpoconpeggpaaGreatDoor.Rd

namespace Go.Proofs.YtefpoconpeggpaaGreatDoor.Rd
open Go Go.RowKit
set_option linter.unusedVariables false
set_option linter.unusedSimpArgs false
set_option maxRecDepth 100000

set_option maxHeartbeats 1000000 in
theorem ref07_Of (ng : Bool) (e : Int) (n : Nat) (hn : n < M) (w0 : World) : GivesN Tryz.prog 26 #[.agg (nbC ng e n)] (RB (fun sl => .agg #[.bool ng, sl, .int .i64 e]) n) w0 := by
  have hst := St.start [] w0
  have hbig := fun w => ref02_Big n hn w
  have hb := build_num1
  have y2 : OneC (#[Value.bool ng, .int .i64 e] ++ wc 8 n) := nbC_one ng e n
  unfold nbC
  go_enter Tryz.func26, Tryz.ntmps26
  go_wp2_with ((first | (refine kb 1 hst rfl rfl ?_; clear hst; intro b1 w hb1 hst) | (refine ka 2 hst tz61 rfl rfl ?_; clear hst; intro b2 w hb2 hst)); try simp only [pz, pn, sz, sc])
  refine wp_region_T 8  hst (by kernel_rfl) ?_; clear hst; intro w hst; (try simp only [List.length_cons, List.length_nil, Nat.reduceAdd, Array.replicate_succ, Array.replicate_zero, List.push_toArray, List.nil_append, List.cons_append])
  refine r0 0 ?_; simp only [pz, pn, sz, sc]
  refine r0 2 ?_; simp only [pz, pn, sz, sc]
  refine r0 5 ?_; simp only [pz, pn, sz, sc]
  refine rl 1 rfl ?_ (ylC tc4); simp only [pz, pn, sz, sc]
  refine rl 3 rfl ?_ (by first | exact ylA ta44 | exact ylM ta44); simp only [pz, pn, sz, sc]
  refine rl 6 rfl ?_ (ylC tc3); simp only [pz, pn, sz, sc]
  refine r1 4 ?_; (refine wl_callB (o := ⟨some 7, _, _, _, _, _⟩) gf16 hst (fun w hst => hbig w) rfl rfl rfl rfl rfl ?_; clear hst; intro v7 Lg7 w hb7 hst; (try simp only [List.cons_append, List.nil_append, List.append_nil, List.append_assoc] at hst); obtain ⟨a7, x7, y7, rfl⟩ := hb7.slice); (try simp only [pz, pn, sz, sc]); refine re ?_
  refine r0 7 ?_ (hy := yB ((fun w => hb _ _ _ _ _ w))); simp only [pz, pn, sz, sc]
  refine r1 8 ?_; (refine kt hst ta61 rfl rfl ?_; clear hst; intro w hst); (try simp only [pz, pn, sz, sc]); refine re ?_
  refine rd_ ?_
  all_goals
    go_wp2_with fail
    exact bp_c rfl rfl (la hst ta61) (PostN.of hst hb7.new ⟨_, rfl, hb7.any⟩ (fun x h => by simp [h]))

theorem ref09_floor (a : Int) (b : Nat) (h1 : 1 ≤ b) (h3 : b ≤ 3) (ha1 : -1000000000 ≤ a) (ha2 : a ≤ 1000000000) : Gives Tryz.prog 78 #[.int .i64 a, .int .i64 b] (.int .i64 (a / b)) := by
  intro w0
  have hst := St.start [] w0
  by_cases h0 : a < 0
  · have Q1 : (-a + (b : Int) - 1).tdiv b = (-a + (b : Int) - 1) / b := Int.tdiv_eq_ediv_of_nonneg (by omega)
    have Q2 : IntKind.i64.wrap (-a) = -a := by rw [IntKind.wrap_i64]; omega
    have Q3 : IntKind.i64.wrap (-a + (b : Int)) = -a + b := by rw [IntKind.wrap_i64]; omega
    have Q4 : IntKind.i64.wrap (-a + (b : Int) - 1) = -a + b - 1 := by rw [IntKind.wrap_i64]; omega
    have hbz : ((b : Int) == 0) = false := by simp; omega
    have e : -((-a + (b : Int) - 1) / b) = a / b := by
      obtain rfl | rfl | rfl : b = 1 ∨ b = 2 ∨ b = 3 := by omega
      all_goals omega
    have hq1 : 0 ≤ (-a + (b : Int) - 1) / b := by
      obtain rfl | rfl | rfl : b = 1 ∨ b = 2 ∨ b = 3 := by omega
      all_goals omega
    have hq2 : (-a + (b : Int) - 1) / b ≤ 2000000000 := by
      obtain rfl | rfl | rfl : b = 1 ∨ b = 2 ∨ b = 3 := by omega
      all_goals omega
    have e' := Lib.hid e
    clear e
    obtain ⟨q, hq⟩ : ∃ q, (-a + (b : Int) - 1) / b = q := ⟨_, rfl⟩
    rw [hq] at Q1 hq1 hq2
    have hqq := Lib.hid hq
    clear hq
    have hb0 : (0 : Int) < b := by omega
    go_enter Tryz.func78, Tryz.ntmps78
    go_wp2_with fail
    refine bp_t rfl rfl (by rfl) ⟨?_, hst.keeps⟩
    rw [← e'.out, hqq.out]; rfl
  · have Q1 : a.tdiv b = a / b := Int.tdiv_eq_ediv_of_nonneg (by omega)
    have hq1 : 0 ≤ a / (b : Int) := by
      obtain rfl | rfl | rfl : b = 1 ∨ b = 2 ∨ b = 3 := by omega
      all_goals omega
    have hq2 : a / (b : Int) ≤ 2000000000 := by
      obtain rfl | rfl | rfl : b = 1 ∨ b = 2 ∨ b = 3 := by omega
      all_goals omega
    have hb0 : (0 : Int) < b := by omega
    go_enter Tryz.func78, Tryz.ntmps78
    go_wp2_with fail
    refine bp_t rfl rfl (by rfl) ⟨?_, hst.keeps⟩
    rfl

set_option maxHeartbeats 4000000 in
theorem ref08_Grows (m : Nat) (h1 : 1 ≤ m) (h5 : m ≤ 5) (ng odd : Bool) (r : Nat) (hr : r ≤ 3) : Gives Tryz.prog 79 #[.int .i64 m, .bool ng, .bool odd, .int .i64 r] (.bool (growsB m ng odd r)) := by
  intro w0
  have hst := St.start [] w0
  obtain rfl | rfl | rfl | rfl : r = 0 ∨ r = 1 ∨ r = 2 ∨ r = 3 := by omega
  all_goals
    obtain rfl | rfl | rfl | rfl | rfl : m = 1 ∨ m = 2 ∨ m = 3 ∨ m = 4 ∨ m = 5 := by omega
    all_goals
      clear h1 h5 hr
      go_enter Tryz.func79, Tryz.ntmps79
      go_wp2_with fail
      refine bp_t rfl rfl (by rfl) ⟨?_, hst.keeps⟩
      rfl

/-- A real number above 0: a value with two numbers of any length. -/
def RlV (ng : Bool) (k : Nat) (vN vD : Value) (E : Int) : Value := .agg #[.bool ng, .int .i64 k, vN, vD, .int .i64 E]
def RR (ng : Bool) (k : Nat) (N D : Nat) (E : Int) (Lg : List (Nat × Obj)) (v : Value) : Prop :=
  ∃ sN sD LN LD, v = RlV ng k sN sD E ∧ BigIn 0 LN sN N ∧ BigIn 0 LD sD D ∧ (∀ x ∈ LN, x ∈ Lg) ∧ (∀ x ∈ LD, x ∈ Lg)
theorem build_real (k : Int) (a : Option Addr) (l c : Nat) (a' : Option Addr) (l' c' : Nat) (e : Int) (w : World) : (Instr.build 41 (List.toArray [(1, .int .i64 k), (2, .slice a l c), (3, .slice a' l' c'), (4, .int .i64 e)])).run Tryz.prog w = .ok (.agg #[.bool false, .int .i64 k, .slice a l c, .slice a' l' c', .int .i64 e]) w := by kernel_rfl

theorem NewIn.add {s : Nat} {L1 L2 : List (Nat × Obj)} (h1 : NewIn s L1) (h2 : NewIn s L2) (h : ((L1 ++ L2).map Prod.fst).Nodup) : NewIn s (L1 ++ L2) :=
  ⟨fun x hx => by rcases List.mem_append.1 hx with hx | hx; exact h1.1 x hx; exact h2.1 x hx, h⟩

end Go.Proofs.YtefpoconpeggpaaGreatDoor.Rd
