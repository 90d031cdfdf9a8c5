/- What table.RootBounds, RootDigit and srtroot.begin, next answer. -/
import Derived.Test.YtefpoconpeggpaaGreatDoorL02
import Derived.Test.YtefpoconpeggpaaGreatDoorL14
namespace Go.Proofs.YtefpoconpeggpaaGreatDoor.Rd
set_option linter.unusedVariables false

theorem sroot_lo (T u y L p up b c : Int) (hTu : 0 ≤ T * u) (hu : 0 ≤ u) (hL : L = up - p * p) (hy : y * (T * u) ≤ L) (hb : b ≤ y) (h : 6 * c * p + c * c * u ≤ 9 * (b * T)) :
    (3 * p + c * u) * (3 * p + c * u) ≤ 9 * up := by
  have h1 : b * (T * u) ≤ y * (T * u) := Int.mul_le_mul_of_nonneg_right hb hTu
  have h2 : (6 * c * p + c * c * u) * u ≤ 9 * (b * T) * u := Int.mul_le_mul_of_nonneg_right h hu
  have e1 : 9 * (b * T) * u = 9 * (b * (T * u)) := by grind
  have e2 : (3 * p + c * u) * (3 * p + c * u) = 9 * (p * p) + (6 * c * p + c * c * u) * u := by grind
  rw [e2]
  omega
theorem sroot_hi (T u y L p up b c : Int) (hTu : 0 ≤ T * u) (hu : 0 ≤ u) (hL : L = up - p * p) (hy : L < (y + 1) * (T * u)) (hb : y < b) (h : 9 * (b * T) ≤ 6 * c * p + c * c * u) :
    9 * up ≤ (3 * p + c * u) * (3 * p + c * u) := by
  have h1 : (y + 1) * (T * u) ≤ b * (T * u) := Int.mul_le_mul_of_nonneg_right (by omega) hTu
  have h2 : 9 * (b * T) * u ≤ (6 * c * p + c * c * u) * u := Int.mul_le_mul_of_nonneg_right h hu
  have e1 : 9 * (b * T) * u = 9 * (b * (T * u)) := by grind
  have e2 : (3 * p + c * u) * (3 * p + c * u) = 9 * (p * p) + (6 * c * p + c * c * u) * u := by grind
  rw [e2]
  omega

/-- The digit that bounds tell. -/
def pickD (b1 b2 b3 b4 y : Int) : Int := if b1 ≤ y then 2 else if b2 ≤ y then 1 else if b3 ≤ y then 0 else if b4 ≤ y then -1 else -2

theorem sroot_step (T u s e y L p up q1 q9 : Int) (hT : 0 < T) (hu0 : 0 < u) (hu : u ≤ 16 * T) (hs : 32 ≤ s) (he0 : 0 ≤ e) (he : e < T) (hp : p = s * T + e)
    (hq1 : 4 * (q1 * T) ≤ u) (hq1' : u < 4 * (q1 * T) + 4 * T) (hq9 : 4 * (q9 * T) ≤ 9 * u) (hq9' : 9 * u < 4 * (q9 * T) + 4 * T)
    (hL : L = up - p * p) (hy1 : y * (T * u) ≤ L) (hy2 : L < (y + 1) * (T * u))
    (h1 : (3 * p + -8 * u) * (3 * p + -8 * u) ≤ 9 * up) (h2 : 9 * up ≤ (3 * p + 8 * u) * (3 * p + 8 * u)) (d : Int) (hd : d = pickD (3 * s + q9) (s + q1) (-s + q1) (-3 * s + q9) y) :
    (3 * (p + d * u) - 2 * u) * (3 * (p + d * u) - 2 * u) ≤ 9 * up ∧ 9 * up ≤ (3 * (p + d * u) + 2 * u) * (3 * (p + d * u) + 2 * u) ∧ -2 ≤ d ∧ d ≤ 2 := by
  have hTu : 0 ≤ T * u := Int.mul_nonneg (by omega) (by omega)
  have hu' : 0 ≤ u := by omega
  have hA : 32 * T ≤ s * T := Int.mul_le_mul_of_nonneg_right hs (by omega)
  have lo := fun b c hb h => sroot_lo T u y L p up b c hTu hu' hL hy1 hb h
  have hi := fun b c hb h => sroot_hi T u y L p up b c hTu hu' hL hy2 hb h
  have g1 : (3 * s + q9) * T = 3 * (s * T) + q9 * T := by grind
  have g2 : (s + q1) * T = s * T + q1 * T := by grind
  have g3 : (-s + q1) * T = -(s * T) + q1 * T := by grind
  have g4 : (-3 * s + q9) * T = -3 * (s * T) + q9 * T := by grind
  have l2 : 3 * s + q9 ≤ y → (3 * p + 4 * u) * (3 * p + 4 * u) ≤ 9 * up := fun h => lo (3 * s + q9) 4 h (by rw [g1]; omega)
  have l1 : s + q1 ≤ y → (3 * p + 1 * u) * (3 * p + 1 * u) ≤ 9 * up := fun h => lo (s + q1) 1 h (by rw [g2]; omega)
  have l0 : -s + q1 ≤ y → (3 * p + -2 * u) * (3 * p + -2 * u) ≤ 9 * up := fun h => lo (-s + q1) (-2) h (by rw [g3]; omega)
  have lm : -3 * s + q9 ≤ y → (3 * p + -5 * u) * (3 * p + -5 * u) ≤ 9 * up := fun h => lo (-3 * s + q9) (-5) h (by rw [g4]; omega)
  have u2 : y < 3 * s + q9 → 9 * up ≤ (3 * p + 5 * u) * (3 * p + 5 * u) := fun h => hi (3 * s + q9) 5 h (by rw [g1]; omega)
  have u1 : y < s + q1 → 9 * up ≤ (3 * p + 2 * u) * (3 * p + 2 * u) := fun h => hi (s + q1) 2 h (by rw [g2]; omega)
  have u0 : y < -s + q1 → 9 * up ≤ (3 * p + -1 * u) * (3 * p + -1 * u) := fun h => hi (-s + q1) (-1) h (by rw [g3]; omega)
  have um : y < -3 * s + q9 → 9 * up ≤ (3 * p + -4 * u) * (3 * p + -4 * u) := fun h => hi (-3 * s + q9) (-4) h (by rw [g4]; omega)
  unfold pickD at hd
  split at hd
  · rename_i c; subst hd
    have e1 : 3 * (p + 2 * u) - 2 * u = 3 * p + 4 * u := by omega
    have e2 : 3 * (p + 2 * u) + 2 * u = 3 * p + 8 * u := by omega
    rw [e1, e2]; exact ⟨l2 c, h2, by omega, by omega⟩
  · rename_i c2
    split at hd
    · rename_i c; subst hd
      have e1 : 3 * (p + 1 * u) - 2 * u = 3 * p + 1 * u := by omega
      have e2 : 3 * (p + 1 * u) + 2 * u = 3 * p + 5 * u := by omega
      rw [e1, e2]; exact ⟨l1 c, u2 (by omega), by omega, by omega⟩
    · rename_i c1
      split at hd
      · rename_i c; subst hd
        have e1 : 3 * (p + 0 * u) - 2 * u = 3 * p + -2 * u := by omega
        have e2 : 3 * (p + 0 * u) + 2 * u = 3 * p + 2 * u := by omega
        rw [e1, e2]; exact ⟨l0 c, u1 (by omega), by omega, by omega⟩
      · rename_i c0
        split at hd
        · rename_i c; subst hd
          have e1 : 3 * (p + -1 * u) - 2 * u = 3 * p + -5 * u := by omega
          have e2 : 3 * (p + -1 * u) + 2 * u = 3 * p + -1 * u := by omega
          rw [e1, e2]; exact ⟨lm c, u0 (by omega), by omega, by omega⟩
        · rename_i cm; subst hd
          have e1 : 3 * (p + -2 * u) - 2 * u = 3 * p + -8 * u := by omega
          have e2 : 3 * (p + -2 * u) + 2 * u = 3 * p + -4 * u := by omega
          rw [e1, e2]; exact ⟨h1, um (by omega), by omega, by omega⟩

/-- What a digit's square counts at a step. -/
def rsq (j : Nat) (n : Int) : Int := if j = 0 then 4 * n else if j = 1 then n else if j = 2 then n / 4 else 0
def rdig (j : Nat) (s y : Int) : Int := pickD (3 * s + rsq j 9) (s + rsq j 1) (-s + rsq j 1) (-3 * s + rsq j 9) y
/-- The root so far, behind j steps. -/
def sp (up : Int) : Nat → Int
  | 0 => 2 ^ 128
  | j + 1 => sp up j + rdig j (sp up j / 2 ^ 122) ((up - sp up j * sp up j) / 2 ^ (248 - 2 * j)) * 2 ^ (126 - 2 * j)

/-- The weights of a step. -/
theorem weights (j : Nat) (hj : j < 64) : (2 : Int) ^ (248 - 2 * j) = 2 ^ 122 * 2 ^ (126 - 2 * j) ∧ (2 : Int) ^ (128 - 2 * j) = 4 * 2 ^ (126 - 2 * j) ∧ (2 : Int) ^ (126 - 2 * j) ≤ 16 * 2 ^ 122 ∧ (0 : Int) < 2 ^ (126 - 2 * j) := by
  refine ⟨?_, ?_, ?_, Int.pow_pos (by omega)⟩
  · rw [← Int.pow_add]; congr 1; omega
  · rw [show 128 - 2 * j = 2 + (126 - 2 * j) by omega, Int.pow_add]; rfl
  · have h := Nat.pow_le_pow_right (n := 2) (by omega) (show 126 - 2 * j ≤ 126 by omega)
    have : ((2 ^ (126 - 2 * j) : Nat) : Int) ≤ ((2 ^ 126 : Nat) : Int) := Int.ofNat_le.2 h
    rw [Int.natCast_pow] at this
    exact Int.le_trans this (by decide)
theorem rsq_near : ∀ j : Nat, j < 64 → 4 * (rsq j 1 * 2 ^ 122) ≤ (2 : Int) ^ (126 - 2 * j) ∧ (2 : Int) ^ (126 - 2 * j) < 4 * (rsq j 1 * 2 ^ 122) + 4 * 2 ^ 122 ∧
    4 * (rsq j 9 * 2 ^ 122) ≤ 9 * (2 : Int) ^ (126 - 2 * j) ∧ 9 * (2 : Int) ^ (126 - 2 * j) < 4 * (rsq j 9 * 2 ^ 122) + 4 * 2 ^ 122 := by decide

/-- What is held behind j steps. -/
def spI (up : Int) (j : Nat) (p : Int) : Prop :=
  (3 * p - 2 * 2 ^ (128 - 2 * j)) * (3 * p - 2 * 2 ^ (128 - 2 * j)) ≤ 9 * up ∧ 9 * up ≤ (3 * p + 2 * 2 ^ (128 - 2 * j)) * (3 * p + 2 * 2 ^ (128 - 2 * j)) ∧ 2 ^ 127 ≤ p ∧ p ≤ 2 ^ 128 ∧ ∃ P : Int, p = P * 2 ^ (128 - 2 * j)

theorem sq_lt {a b : Int} (ha : 0 ≤ a) (h : a < b) : a * a < b * b := Int.lt_of_le_of_lt (Int.mul_le_mul_of_nonneg_left (Int.le_of_lt h) ha) (Int.mul_lt_mul_of_pos_right h (by omega))

theorem sp_step (up : Int) (hup1 : 2 ^ 254 ≤ up) (hup2 : up < 2 ^ 256) (j : Nat) (hj : j < 64) (p : Int) (h : spI up j p) (d : Int) (hd : d = rdig j (p / 2 ^ 122) ((up - p * p) / 2 ^ (248 - 2 * j))) :
    spI up (j + 1) (p + d * 2 ^ (126 - 2 * j)) ∧ -2 ≤ d ∧ d ≤ 2 := by
  obtain ⟨w1, w2, w3, w4⟩ := weights j hj
  obtain ⟨q1, q2, q3, q4⟩ := rsq_near j hj
  obtain ⟨i1, i2, i3, i4, P, hP⟩ := h
  have e128 : (2 : Int) ^ 128 = 64 * 2 ^ 122 := by decide
  have e127 : (2 : Int) ^ 127 = 32 * 2 ^ 122 := by decide
  have hT : (0 : Int) < 2 ^ 122 := by decide
  have hM := Int.mul_ediv_add_emod p (2 ^ 122)
  have hM0 := Int.emod_nonneg p (show (2 : Int) ^ 122 ≠ 0 by decide)
  have hM1 := Int.emod_lt_of_pos p hT
  have hs32 : 32 ≤ p / 2 ^ 122 := by
    apply (Int.le_ediv_iff_mul_le hT).2; omega
  rw [w1] at hd
  have hD := Int.mul_ediv_add_emod (up - p * p) (2 ^ 122 * 2 ^ (126 - 2 * j))
  have hTu : (0 : Int) < 2 ^ 122 * 2 ^ (126 - 2 * j) := Int.mul_pos hT w4
  have hD0 := Int.emod_nonneg (up - p * p) (show (2 : Int) ^ 122 * 2 ^ (126 - 2 * j) ≠ 0 by omega)
  have hD1 := Int.emod_lt_of_pos (up - p * p) hTu
  rw [w2] at i1 i2 hP
  have key := sroot_step (2 ^ 122) (2 ^ (126 - 2 * j)) (p / 2 ^ 122) (p % 2 ^ 122) ((up - p * p) / (2 ^ 122 * 2 ^ (126 - 2 * j))) (up - p * p) p up (rsq j 1) (rsq j 9) hT w4 w3 hs32 hM0 hM1 (by rw [Int.mul_comm]; exact hM.symm)
    q1 q2 q3 q4 rfl (Int.ediv_mul_le _ (by omega)) (Int.lt_ediv_add_one_mul_self _ hTu)
    (by rw [show 3 * p + -8 * 2 ^ (126 - 2 * j) = 3 * p - 2 * (4 * 2 ^ (126 - 2 * j)) by omega]; exact i1) (by rw [show 3 * p + 8 * 2 ^ (126 - 2 * j) = 3 * p + 2 * (4 * 2 ^ (126 - 2 * j)) by omega]; exact i2) d hd
  obtain ⟨k1, k2, k3, k4⟩ := key
  have e126 : 128 - 2 * (j + 1) = 126 - 2 * j := by omega
  refine ⟨⟨by rw [e126]; exact k1, by rw [e126]; exact k2, ?_, ?_, 4 * P + d, by rw [e126, hP]; grind⟩, k3, k4⟩
  · -- not below 2^127
    obtain ⟨Qd, hQd⟩ : ∃ Qd : Int, (2 : Int) ^ 127 = Qd * 2 ^ (126 - 2 * j) := ⟨2 ^ (2 * j + 1), by rw [← Int.pow_add]; congr 1; omega⟩
    have hnn : ¬ (3 * (p + d * 2 ^ (126 - 2 * j)) + 2 * 2 ^ (126 - 2 * j) < 3 * 2 ^ 127) := fun hlt => by
      have h0 : 0 ≤ 3 * (p + d * 2 ^ (126 - 2 * j)) + 2 * 2 ^ (126 - 2 * j) := by
        have : -2 * 2 ^ (126 - 2 * j) ≤ d * 2 ^ (126 - 2 * j) := Int.mul_le_mul_of_nonneg_right k3 (by omega)
        omega
      have h1 := sq_lt h0 hlt
      have h2 : (3 : Int) * 2 ^ 127 * (3 * 2 ^ 127) = 9 * 2 ^ 254 := by decide
      omega
    rw [hP, hQd] at hnn ⊢
    have e1 : 3 * (P * (4 * 2 ^ (126 - 2 * j)) + d * 2 ^ (126 - 2 * j)) + 2 * 2 ^ (126 - 2 * j) = (12 * P + 3 * d + 2) * 2 ^ (126 - 2 * j) := by grind
    have e2 : P * (4 * 2 ^ (126 - 2 * j)) + d * 2 ^ (126 - 2 * j) = (4 * P + d) * 2 ^ (126 - 2 * j) := by grind
    have e3 : 3 * (Qd * 2 ^ (126 - 2 * j)) = 3 * Qd * 2 ^ (126 - 2 * j) := by grind
    rw [e1, e3] at hnn
    rw [e2]
    apply Int.mul_le_mul_of_nonneg_right _ (Int.le_of_lt w4)
    have : ¬ (12 * P + 3 * d + 2 < 3 * Qd) := fun h => hnn (Int.mul_lt_mul_of_pos_right h w4)
    omega
  · -- not above 2^128
    obtain ⟨Qd, hQd⟩ : ∃ Qd : Int, (2 : Int) ^ 128 = Qd * (4 * 2 ^ (126 - 2 * j)) := ⟨2 ^ (2 * j), by rw [← w2, ← Int.pow_add]; congr 1; omega⟩
    rcases Int.lt_or_eq_of_le i4 with hlt | heq
    · rw [hP, hQd] at hlt ⊢
      have : P < Qd := by
        rcases Int.lt_or_le P Qd with h | h
        · exact h
        · have := Int.mul_le_mul_of_nonneg_right h (show (0 : Int) ≤ 4 * 2 ^ (126 - 2 * j) by omega); omega
      have h1 : (P + 1) * (4 * 2 ^ (126 - 2 * j)) ≤ Qd * (4 * 2 ^ (126 - 2 * j)) := Int.mul_le_mul_of_nonneg_right (by omega) (by omega)
      rw [Int.add_mul, Int.one_mul] at h1
      have h2 : d * 2 ^ (126 - 2 * j) ≤ 2 * 2 ^ (126 - 2 * j) := Int.mul_le_mul_of_nonneg_right k4 (by omega)
      omega
    · have hneg : up - p * p < 0 := by
        rw [heq]
        have : (2 : Int) ^ 128 * 2 ^ 128 = 2 ^ 256 := by decide
        omega
      have hy : (up - p * p) / (2 ^ 122 * 2 ^ (126 - 2 * j)) < 0 := Int.ediv_neg_of_neg_of_pos hneg hTu
      have hd0 : d ≤ 0 := by
        rw [hd]
        unfold rdig pickD
        have r9 : 0 ≤ rsq j 9 := by unfold rsq; split <;> (try split) <;> (try split) <;> omega
        have r1 : 0 ≤ rsq j 1 := by unfold rsq; split <;> (try split) <;> (try split) <;> omega
        rw [if_neg (by omega), if_neg (by omega)]
        split <;> (try split) <;> omega
      have : d * 2 ^ (126 - 2 * j) ≤ 0 * 2 ^ (126 - 2 * j) := Int.mul_le_mul_of_nonneg_right hd0 (by omega)
      omega

theorem sp_inv (up : Int) (hup1 : 2 ^ 254 ≤ up) (hup2 : up < 2 ^ 256) : ∀ j, j ≤ 64 → spI up j (sp up j)
  | 0, _ => by
    refine ⟨?_, ?_, show (2 : Int) ^ 127 ≤ 2 ^ 128 by decide, show (2 : Int) ^ 128 ≤ 2 ^ 128 by decide, 1, show (2 : Int) ^ 128 = 1 * 2 ^ (128 - 2 * 0) by decide⟩
    · have : (3 * (2 : Int) ^ 128 - 2 * 2 ^ (128 - 2 * 0)) * (3 * 2 ^ 128 - 2 * 2 ^ (128 - 2 * 0)) = 4 * 2 ^ 254 := by decide
      show (3 * (2 : Int) ^ 128 - 2 * 2 ^ (128 - 2 * 0)) * (3 * 2 ^ 128 - 2 * 2 ^ (128 - 2 * 0)) ≤ 9 * up
      omega
    · have : (3 * (2 : Int) ^ 128 + 2 * 2 ^ (128 - 2 * 0)) * (3 * 2 ^ 128 + 2 * 2 ^ (128 - 2 * 0)) = 25 * 2 ^ 256 := by decide
      show 9 * up ≤ (3 * (2 : Int) ^ 128 + 2 * 2 ^ (128 - 2 * 0)) * (3 * 2 ^ 128 + 2 * 2 ^ (128 - 2 * 0))
      omega
  | j + 1, hj => (sp_step up hup1 hup2 j (by omega) _ (sp_inv up hup1 hup2 j (by omega)) _ rfl).1

theorem sp_last (up : Int) (hup1 : 2 ^ 254 ≤ up) (hup2 : up < 2 ^ 256) (p : Int) (hp : p = sp up 64) :
    (0 ≤ up - p * p → p * p ≤ up ∧ up < (p + 1) * (p + 1)) ∧ (up - p * p < 0 → (p - 1) * (p - 1) ≤ up ∧ up < p * p) ∧ 2 ^ 127 ≤ p ∧ p ≤ 2 ^ 128 := by
  obtain ⟨i1, i2, i3, i4, _⟩ := sp_inv up hup1 hup2 64 (by omega)
  rw [← hp] at i1 i2 i3 i4
  rw [show (2 : Int) ^ (128 - 2 * 64) = 1 by decide] at i1 i2
  have hpos : (2 : Int) ≤ p := Int.le_trans (by decide) i3
  have e1 : (3 * p - 2 * 1) * (3 * p - 2 * 1) = 9 * (p * p) - 12 * p + 4 := by grind
  have e2 : (3 * p + 2 * 1) * (3 * p + 2 * 1) = 9 * (p * p) + 12 * p + 4 := by grind
  have e3 : (p + 1) * (p + 1) = p * p + 2 * p + 1 := by grind
  have e4 : (p - 1) * (p - 1) = p * p - 2 * p + 1 := by grind
  rw [e1] at i1
  rw [e2] at i2
  rw [e3, e4]
  exact ⟨fun h => ⟨by omega, by omega⟩, fun h => ⟨by omega, by omega⟩, i3, i4⟩

/-- What is left is small. -/
theorem sp_small (up : Int) (hup1 : 2 ^ 254 ≤ up) (hup2 : up < 2 ^ 256) (p : Int) (h1 : 2 ^ 127 ≤ p) (h2 : p ≤ 2 ^ 128) : -(2 ^ 256) ≤ up - p * p ∧ up - p * p < 2 ^ 256 := by
  have e1 : p * p ≤ 2 ^ 128 * 2 ^ 128 := Int.mul_le_mul h2 h2 (Int.le_trans (by decide) h1) (by decide)
  have e2 : (2 : Int) ^ 128 * 2 ^ 128 = 2 ^ 256 := by decide
  have e3 : 0 ≤ p * p := Int.mul_nonneg (Int.le_trans (by decide) h1) (Int.le_trans (by decide) h1)
  have e4 : (0 : Int) < 2 ^ 254 := by decide
  omega

/-- What is left, in units of a step, is small. -/
theorem sp_y (up : Int) (j : Nat) (hj : j < 64) (p : Int) (h : spI up j p) : -9223372036854775808 ≤ (up - p * p) / 2 ^ (248 - 2 * j) ∧ (up - p * p) / 2 ^ (248 - 2 * j) ≤ 9223372036854775807 := by
  obtain ⟨w1, w2, w3, w4⟩ := weights j hj
  obtain ⟨i1, i2, i3, i4, _⟩ := h
  rw [w2] at i1 i2
  rw [w1]
  have hT : (0 : Int) < 2 ^ 122 := by decide
  have hTu : (0 : Int) < 2 ^ 122 * 2 ^ (126 - 2 * j) := Int.mul_pos hT w4
  generalize (2 : Int) ^ (126 - 2 * j) = u at *
  have e1 : (3 * p - 2 * (4 * u)) * (3 * p - 2 * (4 * u)) = 9 * (p * p) - 48 * (p * u) + 64 * (u * u) := by grind
  have e2 : (3 * p + 2 * (4 * u)) * (3 * p + 2 * (4 * u)) = 9 * (p * p) + 48 * (p * u) + 64 * (u * u) := by grind
  rw [e1] at i1
  rw [e2] at i2
  have h1 : p * u ≤ 64 * 2 ^ 122 * u := Int.mul_le_mul_of_nonneg_right (Int.le_trans i4 (by decide)) (Int.le_of_lt w4)
  have h2 : u * u ≤ 16 * 2 ^ 122 * u := Int.mul_le_mul_of_nonneg_right w3 (Int.le_of_lt w4)
  have h3 : 0 ≤ u * u := Int.mul_nonneg (Int.le_of_lt w4) (Int.le_of_lt w4)
  have g1 : 64 * 2 ^ 122 * u = 64 * (2 ^ 122 * u) := by rw [Int.mul_assoc]
  have g2 : 16 * 2 ^ 122 * u = 16 * (2 ^ 122 * u) := by rw [Int.mul_assoc]
  rw [g1] at h1
  rw [g2] at h2
  generalize 2 ^ 122 * u = U at *
  constructor
  · apply (Int.le_ediv_iff_mul_le hTu).2; omega
  · apply Int.le_of_lt_add_one; apply (Int.ediv_lt_iff_lt_mul hTu).2; omega

end Go.Proofs.YtefpoconpeggpaaGreatDoor.Rd

namespace Go.Proofs.YtefpoconpeggpaaGreatDoor.Rd
open Go Go.RowKit
set_option linter.unusedVariables false
set_option linter.unusedSimpArgs false
set_option maxRecDepth 100000

/-- The wide of a number with a sign. -/
def toW (z : Int) : Nat := (z % (M : Int)).toNat
theorem M_pos' : (0 : Int) < (M : Int) := Int.natCast_pos.2 M_pos
theorem toW_cast (z : Int) : ((toW z : Nat) : Int) = z % (M : Int) := by
  unfold toW
  have := Int.emod_nonneg z (show (M : Int) ≠ 0 by have := M_pos'; omega)
  omega
theorem toW_lt (z : Int) : toW z < M := by
  have h1 := toW_cast z
  have h2 := Int.emod_lt_of_pos z M_pos'
  omega
theorem toW_eq {n : Nat} {z : Int} (hn : n < M) (h : (n : Int) % (M : Int) = z % (M : Int)) : n = toW z := by
  have h1 := toW_cast z
  rw [Int.emod_eq_of_lt (by omega) (by omega)] at h
  omega
theorem toW_nat (n : Nat) (h : n < M) : toW n = n := (toW_eq h rfl).symm
theorem toW_add (a b : Int) : (toW a + toW b) % M = toW (a + b) := by
  apply toW_eq (Nat.mod_lt _ M_pos)
  rw [Int.natCast_emod, Int.natCast_add, toW_cast, toW_cast]
  rw [Int.emod_emod_of_dvd _ (Int.dvd_refl _), Int.add_emod, Int.emod_emod_of_dvd _ (Int.dvd_refl _), Int.emod_emod_of_dvd _ (Int.dvd_refl _), ← Int.add_emod]
theorem toW_sub (a b : Int) : (toW a + M - toW b) % M = toW (a - b) := by
  apply toW_eq (Nat.mod_lt _ M_pos)
  have hb := toW_lt b
  rw [Int.natCast_emod, Int.natCast_sub (by omega), Int.natCast_add, toW_cast, toW_cast]
  rw [Int.emod_emod_of_dvd _ (Int.dvd_refl _), Int.sub_emod, Int.add_emod_right, Int.emod_emod_of_dvd _ (Int.dvd_refl _), Int.emod_emod_of_dvd _ (Int.dvd_refl _), ← Int.sub_emod]
theorem toW_neg (a : Int) : (M - toW a) % M = toW (-a) := by
  have := toW_sub 0 a
  have h0 : toW 0 = 0 := toW_nat 0 M_pos
  rw [h0, Nat.zero_add, Int.zero_sub] at this
  exact this
theorem toW_mul (a : Int) (k : Nat) : toW a * k % M = toW (a * k) := by
  apply toW_eq (Nat.mod_lt _ M_pos)
  rw [Int.natCast_emod, Int.natCast_mul, toW_cast]
  rw [Int.emod_emod_of_dvd _ (Int.dvd_refl _), Int.mul_emod, Int.emod_emod_of_dvd _ (Int.dvd_refl _), ← Int.mul_emod]

/-- Half of what a wide may be. -/
def HM : Nat := B ^ 7 * 2 ^ 63
theorem M_half : M = 2 * HM := by
  unfold HM
  rw [M_eq, Nat.pow_succ, Nat.mul_left_comm, show 2 * 2 ^ 63 = B from rfl]
theorem HM_two : ∀ m, 511 = m → HM = 2 ^ m := fun m e => by
  have key : ∀ b, B = 2 ^ b → b * 7 + 63 = m → B ^ 7 * 2 ^ 63 = 2 ^ m := fun b hb h => by rw [hb, ← Nat.pow_mul, ← Nat.pow_add, h]
  exact key 64 rfl e
theorem HM_pos : 0 < HM := by have := M_pos; rw [M_half] at this; omega
theorem minus_iff (a : Nat) (ha : a < M) : minusB a = decide (HM ≤ a) := by
  have key : ∀ m, 511 = m → a.testBit m = decide (HM ≤ a) := fun m e => by
    rw [Nat.testBit_eq_decide_div_mod_eq, ← HM_two m e]
    rw [M_half] at ha
    have hp := HM_pos
    by_cases h : HM ≤ a
    · have : a / HM = 1 := by
        apply Nat.div_eq_of_lt_le <;> omega
      simp [this, h]
    · rw [Nat.div_eq_of_lt (by omega)]; simp [h]
  exact key 511 rfl
theorem toW_of_nonneg {z : Int} (h0 : 0 ≤ z) (h1 : z < HM) : toW z = z.toNat := by
  obtain ⟨n, rfl⟩ := Int.eq_ofNat_of_zero_le h0
  rw [toW_nat n (by rw [M_half]; omega)]; rfl
theorem toW_of_neg {z : Int} (h0 : z < 0) (h1 : -(HM : Int) ≤ z) : ((toW z : Nat) : Int) = M + z := by
  rw [toW_cast]
  have hM := M_half
  have : z % (M : Int) = (z + M) % M := by rw [Int.add_emod_right]
  rw [this, Int.emod_eq_of_lt (by omega) (by omega)]; omega
theorem minus_toW (z : Int) (h1 : -(HM : Int) ≤ z) (h2 : z < HM) : minusB (toW z) = decide (z < 0) := by
  rw [minus_iff _ (toW_lt z)]
  have hM := M_half
  have hp := HM_pos
  by_cases h : z < 0
  · have := toW_of_neg h h1
    simp only [h, decide_true, decide_eq_true_eq]
    omega
  · have := toW_of_nonneg (by omega) h2
    simp only [h, decide_false, decide_eq_false_iff_not]
    omega
theorem neg_div (m : Nat) (b : Nat) (hb : 0 < b) : (-(m : Int) - 1) / (b : Int) = -((m / b : Nat) : Int) - 1 := by
  have h := Nat.div_add_mod m b
  have h2 := Nat.mod_lt m hb
  generalize m / b = q at *
  generalize m % b = r at *
  have e : -(m : Int) - 1 = (b : Int) * (-(q : Int) - 1) + ((b : Int) - 1 - r) := by rw [← h]; simp only [Int.natCast_add, Int.natCast_mul]; grind
  rw [e, Int.mul_add_ediv_left _ _ (by omega), Int.ediv_eq_zero_of_lt (by omega) (by omega)]
  omega
theorem sar_toW (z : Int) (c : Nat) (h1 : -(HM : Int) ≤ z) (h2 : z < HM) : sarN (toW z) c = toW (z / (2 ^ c : Nat)) := by
  have hM := M_half
  have hp := HM_pos
  have hc : 0 < 2 ^ c := Nat.pow_pos (by omega)
  unfold sarN
  rw [minus_toW z h1 h2]
  by_cases h : z < 0
  · simp only [h, decide_true, if_true]
    have e1 := toW_of_neg h h1
    obtain ⟨m, rfl⟩ : ∃ m : Nat, z = -(m : Int) - 1 := ⟨(-z - 1).toNat, by omega⟩
    have e2 : M - (1 + toW (-(m : Int) - 1)) = m := by omega
    rw [e2, neg_div m _ hc]
    have hq : m / 2 ^ c ≤ m := Nat.div_le_self _ _
    generalize m / 2 ^ c = q at *
    have e3 := toW_of_neg (z := -(q : Int) - 1) (by omega) (by omega)
    omega
  · simp only [h, decide_false, Bool.false_eq_true, if_false]
    obtain ⟨m, rfl⟩ := Int.eq_ofNat_of_zero_le (show 0 ≤ z by omega)
    rw [toW_nat m (by omega), ← Int.natCast_ediv, toW_nat _ (Nat.lt_of_le_of_lt (Nat.div_le_self _ _) (by omega))]
theorem small_toW (z : Int) (h1 : -9223372036854775808 ≤ z) (h2 : z ≤ 9223372036854775807) : IntKind.i64.wrap ((lb (toW z) 0 : Nat) : Int) = z := by
  have e : ((lb (toW z) 0 : Nat) : Int) = z % 18446744073709551616 := by
    rw [lb_zero, Int.natCast_emod, toW_cast, show (M : Int) = (B : Int) ^ 8 by rw [M_eq]; exact Int.natCast_pow _ _, Int.emod_emod_of_dvd _ ⟨(B : Int) ^ 7, by rw [← Int.pow_succ']⟩]
    rfl
  rw [e]
  have hs : IntKind.i64.signed = true := rfl
  have hb : (2 : Int) ^ IntKind.i64.bits = 18446744073709551616 := rfl
  have hb' : (2 : Int) ^ (IntKind.i64.bits - 1) = 9223372036854775808 := rfl
  simp only [IntKind.wrap, hs, hb, hb', Bool.true_and]
  split <;> rename_i h <;> simp at h <;> omega

theorem srtroot_small (z : Int) (h1 : -9223372036854775808 ≤ z) (h2 : z ≤ 9223372036854775807) : Gives Tryz.prog 231 #[W (toW z)] (.int .i64 z) := by
  intro w0
  have hst := St.start [] w0
  have e := small_toW z h1 h2
  generalize toW z = n at *
  go_enter Tryz.func231, Tryz.ntmps231
  go_wp2_with ((first | (refine kb 1 hst rfl rfl ?_; clear hst; intro b1 w hb1 hst) | (refine kc hst tc22 rfl ?_)); try simp only [pz, pn, sz, sc])
  refine bp_t rfl rfl (by rfl) ⟨?_, hst.keeps⟩
  rfl

set_option maxHeartbeats 1000000 in
theorem srtroot_times (z n : Int) (h1 : -9 ≤ n) (h2 : n ≤ 9) : Gives Tryz.prog 236 #[W (toW z), .int .i64 n] (W (toW (z * n))) := by
  intro w0
  have hst := St.start [] w0
  obtain ⟨x, hx⟩ : ∃ x : Nat, x = n.natAbs := ⟨_, rfl⟩
  have hxB : x < B := by rw [B_val]; omega
  have hsm := prod_Small (toW z) x (toW_lt z) hxB
  rw [toW_mul] at hsm
  have hm : max n (-n) = (x : Int) := by omega
  have hw : IntKind.u64.wrap (x : Int) = (x : Int) := by rw [u64_wrap, Nat.mod_eq_of_lt hxB]
  by_cases h : n < 0
  · have hneg := wide_Neg (toW (z * x)) (toW_lt _)
    rw [toW_neg] at hneg
    have e : -(z * (x : Int)) = z * n := by rw [← Int.mul_neg]; congr 1; omega
    rw [e] at hneg
    clear e hx hxB
    go_enter Tryz.func236, Tryz.ntmps236
    go_wp2_with ((first | (refine kf gf238 hst (hsm) rfl rfl rfl rfl ?_; clear hst; intro w hst) | (refine kf gf239 hst (hneg) rfl rfl rfl rfl ?_; clear hst; intro w hst) | (refine kb 2 hst rfl rfl ?_; clear hst; intro b2 w hb2 hst) | (refine ka 4 hst tz44 rfl rfl ?_; clear hst; intro b4 w hb4 hst) | (refine kl hst ta44 rfl ?_) | (refine ka 5 hst tz44 rfl rfl ?_; clear hst; intro b5 w hb5 hst) | (refine kt hst ta44 rfl rfl ?_; clear hst; intro w hst)); try simp only [pz, pn, sz, sc])
    refine bp_c rfl rfl (la hst ta44) ⟨?_, hst.keeps⟩
    rfl
  · have e : z * (x : Int) = z * n := by congr 1; omega
    rw [e] at hsm
    clear e hx hxB
    go_enter Tryz.func236, Tryz.ntmps236
    go_wp2_with ((first | (refine kf gf238 hst (hsm) rfl rfl rfl rfl ?_; clear hst; intro w hst) | (refine kb 2 hst rfl rfl ?_; clear hst; intro b2 w hb2 hst) | (refine ka 4 hst tz44 rfl rfl ?_; clear hst; intro b4 w hb4 hst) | (refine kl hst ta44 rfl ?_) | (refine ka 5 hst tz44 rfl rfl ?_; clear hst; intro b5 w hb5 hst) | (refine kt hst ta44 rfl rfl ?_; clear hst; intro w hst)); try simp only [pz, pn, sz, sc])
    refine bp_c rfl rfl (la hst ta44) ⟨?_, hst.keeps⟩
    rfl

theorem table_square (j : Nat) (n : Int) (h1 : 0 ≤ n) (h2 : n ≤ 100) : Gives Tryz.prog 237 #[.int .i64 j, .int .i64 n] (.int .i64 (rsq j n)) := by
  intro w0
  have hst := St.start [] w0
  unfold rsq
  by_cases h0 : j = 0
  · subst h0
    go_enter Tryz.func237, Tryz.ntmps237
    go_wp2_with fail
    refine bp_t rfl rfl (by rfl) ⟨?_, hst.keeps⟩
    go_num
  · by_cases hj1 : j = 1
    · subst hj1
      go_enter Tryz.func237, Tryz.ntmps237
      go_wp2_with fail
      refine bp_t rfl rfl (by rfl) ⟨?_, hst.keeps⟩
      rfl
    · by_cases hj2 : j = 2
      · subst hj2
        have e : n.tdiv 4 = n / 4 := Int.tdiv_eq_ediv_of_nonneg h1
        go_enter Tryz.func237, Tryz.ntmps237
        go_wp2_with fail
        refine bp_t rfl rfl (by rfl) ⟨?_, hst.keeps⟩
        go_num
      · have e0 : ((j : Int) == 0) = false := by simpa using h0
        have e1 : ((j : Int) == 1) = false := by simp; omega
        have e2 : ((j : Int) == 2) = false := by simp; omega
        rw [if_neg h0, if_neg hj1, if_neg hj2]
        clear h0 hj1 hj2
        go_enter Tryz.func237, Tryz.ntmps237
        go_wp2_with fail
        refine bp_t rfl rfl (by rfl) ⟨?_, hst.keeps⟩
        rfl

/-- The four bounds. -/
def pb (b1 b2 b3 b4 : Int) : Array Value := #[.int .i64 b1, .int .i64 b2, .int .i64 b3, .int .i64 b4]
def bnd (b1 b2 b3 b4 : Int) (k : Nat) : Int := if k = 0 then b1 else if k = 1 then b2 else if k = 2 then b3 else b4
theorem pb_get (b1 b2 b3 b4 : Int) (k : Nat) (h : k < 4) : (pb b1 b2 b3 b4)[k]? = some (.int .i64 (bnd b1 b2 b3 b4 k)) := by
  have : k = 0 ∨ k = 1 ∨ k = 2 ∨ k = 3 := by omega
  rcases this with rfl | rfl | rfl | rfl <;> rfl
theorem pick_at (b1 b2 b3 b4 y : Int) (k : Nat) (h : k < 4) (hlt : ∀ i, i < k → y < bnd b1 b2 b3 b4 i) (hle : bnd b1 b2 b3 b4 k ≤ y) : pickD b1 b2 b3 b4 y = 2 - k := by
  have h0 := hlt 0
  have h1 := hlt 1
  have h2 := hlt 2
  have : k = 0 ∨ k = 1 ∨ k = 2 ∨ k = 3 := by omega
  unfold pickD
  rcases this with rfl | rfl | rfl | rfl <;> simp [bnd] at h0 h1 h2 hle <;> (repeat (first | rw [if_pos (by omega)] | rw [if_neg (by omega)])) <;> rfl
theorem pick_none (b1 b2 b3 b4 y : Int) (hlt : ∀ i, i < 4 → y < bnd b1 b2 b3 b4 i) : pickD b1 b2 b3 b4 y = -2 := by
  have h0 := hlt 0 (by omega)
  have h1 := hlt 1 (by omega)
  have h2 := hlt 2 (by omega)
  have h3 := hlt 3 (by omega)
  simp [bnd] at h0 h1 h2 h3
  unfold pickD
  rw [if_neg (by omega), if_neg (by omega), if_neg (by omega), if_neg (by omega)]

set_option maxHeartbeats 2000000 in
theorem table_pick (b1 b2 b3 b4 y : Int) : Gives Tryz.prog 235 #[.agg (pb b1 b2 b3 b4), .int .i64 y] (.int .i64 (pickD b1 b2 b3 b4 y)) := by
  intro w0
  have hst := St.start [] w0
  have hg := Lib.hid (pb_get b1 b2 b3 b4)
  have hp := Lib.hid (pick_at b1 b2 b3 b4 y)
  have hn := Lib.hid (pick_none b1 b2 b3 b4 y)
  have hsz : (pb b1 b2 b3 b4).size = 4 := rfl
  generalize pb b1 b2 b3 b4 = cs at *
  generalize pickD b1 b2 b3 b4 y = d at *
  generalize bnd b1 b2 b3 b4 = bf at *
  go_enter Tryz.func235, Tryz.ntmps235
  go_wp2_with ((first | (refine kb 2 hst rfl rfl ?_; clear hst; intro b2 w hb2 hst) | (refine kl hst ta286 rfl ?_)); try simp only [pz, pn, sz, sc])
  go_loopw [5, 9] (fun u i wr => ∃ k : Nat, k ≤ 4 ∧ i = .int .i64 k ∧ u = .int .i64 (2 - (k : Int)) ∧ (∀ i, i < k → y < bf i) ∧ St w0 [] [] wr) (fun _ i _ => 4 - (intOf i).toNat)
  case atStart => exact ⟨0, by omega, rfl, rfl, fun i h => absurd h (by omega), hst.sub (List.nil_sublist _)⟩
  case round =>
    clear hst
    obtain ⟨k, hk, rfl, rfl, hb, hst⟩ := hrel
    have hb' := Lib.hid hb
    clear hb
    by_cases hlt : k < 4
    · have hi0 : (0 : Int) ≤ (k : Int) := by omega
      have hi8 : (k : Int) < 4 := by omega
      have hget := hg.out k hlt
      by_cases hle : bf k ≤ y
      · have e := Lib.hid (hp.out k hlt hb'.out hle)
        go_wp2_with ((first | (refine ki tr286 tc3 rfl ?_)); try simp only [pz, pn, sz, sc])
        refine bp_t rfl rfl (by rfl) ⟨?_, hst.keeps⟩
        rw [e.out]; rfl
      · have hnl : ¬ (bf k ≤ y) := hle
        have e1 : (2 : Int) - ((k + 1 : Nat) : Int) = 2 - (k : Int) - 1 := by omega
        have e1' := Lib.hid e1
        have hnew := Lib.hid (show ∀ i, i < k + 1 → y < bf i from fun i hi => by
          rcases Nat.lt_or_eq_of_le (Nat.le_of_lt_succ hi) with h | rfl
          · exact hb'.out i h
          · omega)
        clear e1
        go_wp2_with ((first | (refine ki tr286 tc3 rfl ?_)); try simp only [pz, pn, sz, sc])
        go_roundw
        case rel => exact ⟨k + 1, by omega, by go_num, by rw [e1'.out], hnew.out, hst⟩
        case measure => simp [intOf]; omega
    · have : k = 4 := by omega
      subst this
      have e := Lib.hid (hn.out hb'.out)
      go_wp2_with fail
      refine bp_t rfl rfl (by rfl) ⟨?_, hst.keeps⟩
      rw [e.out]; rfl

/-- The bounds so far. -/
def rbs (b1 b2 b3 b4 : Int) : Nat → Array Value
  | 0 => pb 0 0 0 0
  | 1 => pb b1 0 0 0
  | 2 => pb b1 b2 0 0
  | 3 => pb b1 b2 b3 0
  | _ => pb b1 b2 b3 b4
theorem rbs_set (b1 b2 b3 b4 : Int) (k : Nat) (h : k < 4) : (rbs b1 b2 b3 b4 k).setIfInBounds k (.int .i64 (bnd b1 b2 b3 b4 k)) = rbs b1 b2 b3 b4 (k + 1) := by
  have : k = 0 ∨ k = 1 ∨ k = 2 ∨ k = 3 := by omega
  rcases this with rfl | rfl | rfl | rfl <;> rfl
theorem rbs_size (b1 b2 b3 b4 : Int) (k : Nat) : (rbs b1 b2 b3 b4 k).size = 4 := by
  unfold rbs; split <;> rfl

end Go.Proofs.YtefpoconpeggpaaGreatDoor.Rd

namespace Go.Proofs.YtefpoconpeggpaaGreatDoor.Rd
open Go Go.RowKit
set_option linter.unusedVariables false
set_option linter.unusedSimpArgs false
set_option maxRecDepth 100000

set_option maxHeartbeats 4000000 in
theorem table_RootBounds (j : Nat) (s : Int) (h1 : 28 ≤ s) (h2 : s ≤ 64) : Gives Tryz.prog 234 #[.int .i64 j, .int .i64 s] (.tuple #[.agg (pb (3 * s + rsq j 9) (s + rsq j 1) (-s + rsq j 1) (-3 * s + rsq j 9)), .bool true]) := by
  intro w0
  have hst := St.start [] w0
  have q9 := table_square j 9 (by omega) (by omega)
  have q1 := table_square j 1 (by omega) (by omega)
  have r9 : 0 ≤ rsq j 9 ∧ rsq j 9 ≤ 36 := by unfold rsq; split <;> (try split) <;> (try split) <;> omega
  have r1 : 0 ≤ rsq j 1 ∧ rsq j 1 ≤ 4 := by unfold rsq; split <;> (try split) <;> (try split) <;> omega
  generalize rsq j 9 = x9 at *
  generalize rsq j 1 = x1 at *
  obtain ⟨r90, r91⟩ := r9
  obtain ⟨r10, r11⟩ := r1
  have j0 : ¬ ((j : Int) < 0) := by omega
  have s0 : ¬ (s < 28) := by omega
  have s1 : ¬ ((64 : Int) < s) := by omega
  have hset := Lib.hid (rbs_set (3 * s + x9) (s + x1) (-s + x1) (-3 * s + x9))
  have hsz := Lib.hid (rbs_size (3 * s + x9) (s + x1) (-s + x1) (-3 * s + x9))
  have hbn : ∀ k, k < 4 → bnd (3 * s + x9) (s + x1) (-s + x1) (-3 * s + x9) k = (3 - 2 * (k : Int)) * s + (if k = 0 ∨ k = 3 then x9 else x1) := fun k hk => by
    have : k = 0 ∨ k = 1 ∨ k = 2 ∨ k = 3 := by omega
    rcases this with rfl | rfl | rfl | rfl <;> simp [bnd] <;> omega
  have hbn' := Lib.hid hbn
  have hz : pb 0 0 0 0 = rbs (3 * s + x9) (s + x1) (-s + x1) (-3 * s + x9) 0 := rfl
  have hend : rbs (3 * s + x9) (s + x1) (-s + x1) (-3 * s + x9) 4 = pb (3 * s + x9) (s + x1) (-s + x1) (-3 * s + x9) := rfl
  rw [← hend]
  have hz' := Lib.hid hz
  have hone' : OneC (rbs (3 * s + x9) (s + x1) (-s + x1) (-3 * s + x9) 4) := ⟨by kernel_rfl⟩
  clear hz hend hbn
  generalize rbs (3 * s + x9) (s + x1) (-s + x1) (-3 * s + x9) = rb at *
  generalize bnd (3 * s + x9) (s + x1) (-s + x1) (-3 * s + x9) = bf at *
  go_enter Tryz.func234, Tryz.ntmps234
  go_wp2_with ((first | (refine ka 4 hst tz286 rfl rfl ?_; clear hst; intro b4 w hb4 hst) | (refine ka 6 hst tz286 rfl rfl ?_; clear hst; intro b6 w hb6 hst)); try simp only [pz, pn, sz, sc])
  go_loopw [7, 8, 20] (fun u v i wr => ∃ k : Nat, k ≤ 4 ∧ i = .int .i64 k ∧ St w0 [] [(b6, .cells (rb k) 286), (b4, .cells (pb 0 0 0 0) 286)] wr) (fun _ _ i _ => 4 - (intOf i).toNat)
  case atStart => exact ⟨0, by omega, rfl, by rw [← hz'.out]; exact hst⟩
  case round =>
    clear hst
    obtain ⟨k, hk, rfl, hst⟩ := hrel
    have hszk := hsz.out k
    by_cases hlt : k < 4
    · have hi0 : (0 : Int) ≤ (k : Int) := by omega
      have hi8 : (k : Int) < 4 := by omega
      have hk4 : k = 0 ∨ k = 1 ∨ k = 2 ∨ k = 3 := by omega
      have hlt4 : k < (rb k).size := by omega
      have hsk := hset.out k hlt
      rw [hbn'.out k hlt] at hsk
      rcases hk4 with rfl | rfl | rfl | rfl
      · have e : (3 - 2 * ((0 : Nat) : Int)) * s + (if (0 : Nat) = 0 ∨ (0 : Nat) = 3 then x9 else x1) = 3 * s + x9 := by simp
        rw [e] at hsk
        have hsk' := Lib.hid hsk
        clear hsk hk hlt e
        simp only [Int.natCast_zero]
        go_wp2_with ((first | (refine kf gf237 hst (q9) rfl rfl rfl rfl ?_; clear hst; intro w hst) | (refine ks hst tc3 rfl rfl ?_; clear hst; intro w hst)); try simp only [pz, pn, sz, sc])
        rw [hsk'.out] at hst
        exact ⟨⟨1, by omega, rfl, hst⟩, by simp [intOf]⟩
      · have e : (3 - 2 * ((1 : Nat) : Int)) * s + (if (1 : Nat) = 0 ∨ (1 : Nat) = 3 then x9 else x1) = s + x1 := by simp
        rw [e] at hsk
        have hsk' := Lib.hid hsk
        clear hsk hk hlt e
        simp only [Int.natCast_one]
        go_wp2_with ((first | (refine kf gf237 hst (q1) rfl rfl rfl rfl ?_; clear hst; intro w hst) | (refine ks hst tc3 rfl rfl ?_; clear hst; intro w hst)); try simp only [pz, pn, sz, sc])
        rw [hsk'.out] at hst
        exact ⟨⟨2, by omega, rfl, hst⟩, by simp [intOf]⟩
      · have e : (3 - 2 * ((2 : Nat) : Int)) * s + (if (2 : Nat) = 0 ∨ (2 : Nat) = 3 then x9 else x1) = -s + x1 := by simp
        rw [e] at hsk
        have hsk' := Lib.hid hsk
        clear hsk hk hlt e
        simp only [Int.cast_ofNat_Int]
        go_wp2_with ((first | (refine kf gf237 hst (q1) rfl rfl rfl rfl ?_; clear hst; intro w hst) | (refine ks hst tc3 rfl rfl ?_; clear hst; intro w hst)); try simp only [pz, pn, sz, sc])
        rw [hsk'.out] at hst
        exact ⟨⟨3, by omega, rfl, hst⟩, by simp [intOf]⟩
      · have e : (3 - 2 * ((3 : Nat) : Int)) * s + (if (3 : Nat) = 0 ∨ (3 : Nat) = 3 then x9 else x1) = -3 * s + x9 := by simp
        rw [e] at hsk
        have hsk' := Lib.hid hsk
        clear hsk hk hlt e
        simp only [Int.cast_ofNat_Int]
        go_wp2_with ((first | (refine kf gf237 hst (q9) rfl rfl rfl rfl ?_; clear hst; intro w hst) | (refine ks hst tc3 rfl rfl ?_; clear hst; intro w hst)); try simp only [pz, pn, sz, sc])
        rw [hsk'.out] at hst
        exact ⟨⟨4, by omega, rfl, hst⟩, by simp [intOf]⟩
    · have : k = 4 := by omega
      subst this
      go_wp2_with ((first | (refine kl hst ta286 rfl ?_) | (refine kt hst ta286 rfl rfl ?_; clear hst; intro w hst)); try simp only [pz, pn, sz, sc])
      refine bp_ct rfl rfl (la hst ta286) (by rfl) ⟨?_, hst.keeps⟩
      rfl

set_option maxHeartbeats 1000000 in
theorem table_RootDigit (j : Nat) (s y : Int) (h1 : 28 ≤ s) (h2 : s ≤ 64) : Gives Tryz.prog 230 #[.int .i64 j, .int .i64 s, .int .i64 y] (.tuple #[.int .i64 (rdig j s y), .bool true]) := by
  intro w0
  have hst := St.start [] w0
  have hb := table_RootBounds j s h1 h2
  have hp := table_pick (3 * s + rsq j 9) (s + rsq j 1) (-s + rsq j 1) (-3 * s + rsq j 9) y
  have e : pickD (3 * s + rsq j 9) (s + rsq j 1) (-s + rsq j 1) (-3 * s + rsq j 9) y = rdig j s y := rfl
  rw [e] at hp
  have hsz : (pb (3 * s + rsq j 9) (s + rsq j 1) (-s + rsq j 1) (-3 * s + rsq j 9)).size = 4 := rfl
  have hone : OneC (pb (3 * s + rsq j 9) (s + rsq j 1) (-s + rsq j 1) (-3 * s + rsq j 9)) := ⟨by kernel_rfl⟩
  generalize pb (3 * s + rsq j 9) (s + rsq j 1) (-s + rsq j 1) (-3 * s + rsq j 9) = cs at *
  generalize rdig j s y = d at *
  clear e
  go_enter Tryz.func230, Tryz.ntmps230
  go_wp2_with ((first | (refine kf gf234 hst (hb) rfl rfl rfl rfl ?_; clear hst; intro w hst) | (refine kf gf235 hst (hp) rfl rfl rfl rfl ?_; clear hst; intro w hst) | (refine ka 8 hst tz286 rfl rfl ?_; clear hst; intro b8 w hb8 hst) | (refine kt hst ta286 rfl rfl ?_; clear hst; intro w hst) | (refine kl hst ta286 rfl ?_)); try simp only [pz, pn, sz, sc])
  refine bp_tt rfl rfl (by rfl) (by rfl) ⟨?_, hst.keeps⟩
  rfl

/-- What one is far: the root so far, what is left. -/
def farC (p l : Int) : Array Value := wc 8 (toW p) ++ wc 8 (toW l)
theorem farC_size (p l : Int) : (farC p l).size = 16 := by simp [farC]
theorem app_one (a b : Nat) : OneC (wc 8 a ++ wc 8 b) := ⟨by rw [Array.all_append, wc_one, wc_one]; rfl⟩
theorem farC_one (p l : Int) : OneC (farC p l) := app_one _ _

theorem toW_pow (k : Nat) (h : k < 512) : toW ((2 ^ k : Nat) : Int) = 2 ^ k := toW_nat _ (pow_M h)

set_option maxHeartbeats 4000000 in
theorem srtroot_begin (n : Nat) (hn : n < M) : Gives Tryz.prog 229 #[W n] (.agg (farC ((2 ^ 128 : Nat) : Int) ((n : Int) - (2 ^ 256 : Nat)))) := by
  intro w0
  have hst := St.start [] w0
  have h1 := wide_Power 256
  have e1 : pow2 256 = toW ((2 ^ 256 : Nat) : Int) := by rw [toW_pow 256 (by omega)]; unfold pow2; rw [if_pos (by omega)]; rfl
  rw [e1] at h1
  have h2 := wide_Power 128
  have e2 : pow2 128 = toW ((2 ^ 128 : Nat) : Int) := by rw [toW_pow 128 (by omega)]; unfold pow2; rw [if_pos (by omega)]; rfl
  rw [e2] at h2
  have h3 := wide_Sub (toW (n : Int)) (toW ((2 ^ 256 : Nat) : Int)) (toW_lt _) (toW_lt _)
  rw [toW_sub, toW_nat n hn] at h3
  unfold farC
  clear e1 e2
  generalize toW ((2 ^ 256 : Nat) : Int) = x at *
  generalize toW ((2 ^ 128 : Nat) : Int) = z at *
  generalize toW ((n : Int) - (2 ^ 256 : Nat)) = y at *
  have h16 : (wc 8 z ++ wc 8 y).size = 16 := by simp
  have hone := app_one z y
  go_enter Tryz.func229, Tryz.ntmps229
  go_wp2_with ((first | (refine kb 1 hst rfl rfl ?_; clear hst; intro b1 w hb1 hst) | (refine ka 2 hst tz278 rfl rfl ?_; clear hst; intro b2 w hb2 hst)); try simp only [pz, pn, sz, sc])
  refine wp_region_T 7  hst (by kernel_rfl) ?_; clear hst; intro w hst; (try simp only [List.length_cons, List.length_nil, Nat.reduceAdd, Array.replicate_succ, Array.replicate_zero, List.push_toArray, List.nil_append, List.cons_append])
  refine rl 0 rfl ?_ (by first | exact ylA ta44 | exact ylM ta44); simp only [pz, pn, sz, sc]
  refine r2 1 6 ?_ ?_
  (refine kf gf127 hst (h1) rfl rfl rfl rfl ?_; clear hst; intro w hst); (try simp only [pz, pn, sz, sc]); refine re ?_
  refine r2 2 6 ?_ ?_
  (refine kf gf122 hst (h3) rfl rfl rfl rfl ?_; clear hst; intro w hst); (try simp only [pz, pn, sz, sc]); refine re ?_
  refine r0 3 ?_; simp only [pz, pn, sz, sc]
  refine r0 4 ?_; simp only [pz, pn, sz, sc]
  refine r0 5 ?_; simp only [pz, pn, sz, sc]
  refine r1 6 ?_; (refine ka 3 hst tz44 rfl rfl ?_; clear hst; intro b3 w hb3 hst); (try simp only [pz, pn, sz, sc]); refine re ?_
  refine r1 7 ?_; (refine kt hst ta44 rfl rfl ?_; clear hst; intro w hst); (try simp only [pz, pn, sz, sc]); refine re ?_
  refine r0 8 ?_; simp only [pz, pn, sz, sc]
  refine rd_ ?_
  rotate_left 1
  (refine ka 3 hst tz44 rfl rfl ?_; clear hst; intro b3 w hb3 hst); (try simp only [pz, pn, sz, sc]); refine re ?_
  refine r1 2 ?_; (refine kf gf122 hst (h3) rfl rfl rfl rfl ?_; clear hst; intro w hst); (try simp only [pz, pn, sz, sc]); refine re ?_
  refine r0 3 ?_; simp only [pz, pn, sz, sc]
  refine r0 4 ?_; simp only [pz, pn, sz, sc]
  refine r0 5 ?_; simp only [pz, pn, sz, sc]
  refine r1 7 ?_; (refine kt hst ta44 rfl rfl ?_; clear hst; intro w hst); (try simp only [pz, pn, sz, sc]); refine re ?_
  refine r0 8 ?_; simp only [pz, pn, sz, sc]
  refine rd_ ?_
  rotate_right 1
  rotate_left 2
  (refine ka 3 hst tz44 rfl rfl ?_; clear hst; intro b3 w hb3 hst); (try simp only [pz, pn, sz, sc]); refine re ?_
  refine r1 1 ?_; (refine kf gf127 hst (h1) rfl rfl rfl rfl ?_; clear hst; intro w hst); (try simp only [pz, pn, sz, sc]); refine re ?_
  refine r1 2 ?_; (refine kf gf122 hst (h3) rfl rfl rfl rfl ?_; clear hst; intro w hst); (try simp only [pz, pn, sz, sc]); refine re ?_
  refine r0 3 ?_; simp only [pz, pn, sz, sc]
  refine r0 4 ?_; simp only [pz, pn, sz, sc]
  refine r0 5 ?_; simp only [pz, pn, sz, sc]
  refine r1 7 ?_; (refine kt hst ta44 rfl rfl ?_; clear hst; intro w hst); (try simp only [pz, pn, sz, sc]); refine re ?_
  refine r0 8 ?_; simp only [pz, pn, sz, sc]
  refine rd_ ?_
  rotate_right 2
  all_goals
    go_wp2_with fail
    refine wp_region_T 3  hst (by kernel_rfl) ?_; clear hst; intro w hst; (try simp only [List.length_cons, List.length_nil, Nat.reduceAdd, Array.replicate_succ, Array.replicate_zero, List.push_toArray, List.nil_append, List.cons_append])
    refine rl 1 rfl ?_ (by first | exact ylA ta44 | exact ylM ta44); simp only [pz, pn, sz, sc]
    refine r1 0 ?_; (refine kf gf127 hst (h2) rfl rfl rfl rfl ?_; clear hst; intro w hst); (try simp only [pz, pn, sz, sc]); refine re ?_
    refine r0 2 ?_ (hy := yB (tb278_01 _ _)); simp only [pz, pn, sz, sc]
    refine r1 3 ?_; (refine kt hst ta278 rfl rfl ?_; clear hst; intro w hst); (try simp only [pz, pn, sz, sc]); refine re ?_
    refine rd_ ?_
    go_wp2_with fail
    refine bp_c rfl rfl (la hst ta278) ⟨?_, hst.keeps⟩
    rfl

end Go.Proofs.YtefpoconpeggpaaGreatDoor.Rd
