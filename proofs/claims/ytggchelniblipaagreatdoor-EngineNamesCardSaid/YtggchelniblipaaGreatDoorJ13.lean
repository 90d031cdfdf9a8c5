/- The root finders' mathematics: how near the guesses come. -/
import Derived.Test.YtggchelniblipaaGreatDoorJ01
namespace Go.Proofs.YtggchelniblipaaGreatDoor.Rd
set_option linter.unusedVariables false

/-- A round of Newton's: what K R lacks to D times the reciprocal, behind it. -/
theorem newton_step (K R D y A A' : Nat) (hK : 0 < K) (hR : 0 < R) (hD : D < K) (hE : (((K * R : Nat) : Int) - ((D * y : Nat) : Int)).natAbs ≤ A) (ht : D * y / K ≤ 2 * R)
    (hA : A * (A + K) + R * K * K ≤ A' * (R * K)) : (((K * R : Nat) : Int) - ((D * (y * (2 * R - D * y / K) / R) : Nat) : Int)).natAbs ≤ A' := by
  obtain ⟨X, hX⟩ : ∃ X, X = D * y := ⟨_, rfl⟩
  rw [← hX] at hE ht ⊢
  have h1 := Nat.div_add_mod X K
  have h2 := Nat.mod_lt X hK
  generalize X / K = t at *
  generalize X % K = r at *
  obtain ⟨f, hf⟩ : ∃ f, f = 2 * R - t := ⟨_, rfl⟩
  rw [← hf]
  have h3 := Nat.div_add_mod (y * f) R
  have h4 := Nat.mod_lt (y * f) hR
  have h5 : D * (R * (y * f / R) + y * f % R) = X * f := by rw [h3, hX, Nat.mul_assoc]
  generalize y * f / R = q at *
  generalize y * f % R = s at *
  have hft : f + t = 2 * R := by omega
  obtain ⟨E, hEE⟩ : ∃ E : Int, E = ((K * R : Nat) : Int) - (X : Int) := ⟨_, rfl⟩
  obtain ⟨c, hc⟩ : ∃ c : Int, c = (f : Int) - (R : Int) := ⟨_, rfl⟩
  rw [← hEE] at hE
  have i1 : (K : Int) * (t : Int) + (r : Int) = (X : Int) := by exact_mod_cast h1
  have i2 : (D : Int) * ((R : Int) * (q : Int) + (s : Int)) = (X : Int) * (f : Int) := by exact_mod_cast h5
  have i3 : (f : Int) + (t : Int) = 2 * (R : Int) := by exact_mod_cast hft
  have i4 : E = (K : Int) * (R : Int) - (X : Int) := by rw [hEE]; push_cast; rfl
  have ec : c * (K : Int) = E + (r : Int) := by grind
  have key : (((K * R : Nat) : Int) - ((D * q : Nat) : Int)) * (R : Int) = E * c - (R : Int) * (r : Int) + (D : Int) * (s : Int) := by push_cast; grind
  obtain ⟨E', hE'⟩ : ∃ E' : Int, E' = ((K * R : Nat) : Int) - ((D * q : Nat) : Int) := ⟨_, rfl⟩
  rw [← hE'] at key ⊢
  have b1 : (R : Int) * (r : Int) ≤ (R : Int) * (K : Int) := Int.mul_le_mul_of_nonneg_left (by omega) (by omega)
  have b2 : 0 ≤ (R : Int) * (r : Int) := Int.mul_nonneg (by omega) (by omega)
  have b3 : (D : Int) * (s : Int) ≤ (R : Int) * (K : Int) := by
    rw [Int.mul_comm (R : Int)]
    exact Int.mul_le_mul (by omega) (by omega) (by omega) (by omega)
  have b4 : 0 ≤ (D : Int) * (s : Int) := Int.mul_nonneg (by omega) (by omega)
  have n1 : (E * c).natAbs * K ≤ A * (A + K) := by
    rw [Int.natAbs_mul, Nat.mul_assoc]
    refine Nat.mul_le_mul hE ?_
    have : (c * (K : Int)).natAbs = c.natAbs * K := by rw [Int.natAbs_mul]; rfl
    rw [← this, ec]
    omega
  have n2 : E'.natAbs * R ≤ (E * c).natAbs + R * K := by
    have : (E' * (R : Int)).natAbs = E'.natAbs * R := by rw [Int.natAbs_mul]; rfl
    rw [← this, key]
    have e : ((R * K : Nat) : Int) = (R : Int) * (K : Int) := by push_cast; rfl
    omega
  have n3 : E'.natAbs * R * K ≤ A * (A + K) + R * K * K := by
    have := Nat.mul_le_mul_right K n2
    rw [Nat.add_mul] at this
    omega
  have n4 : E'.natAbs * (R * K) ≤ A' * (R * K) := by rw [← Nat.mul_assoc]; omega
  exact Nat.le_of_mul_le_mul_right n4 (Nat.mul_pos hR hK)

/-- What a reciprocal that is near tells of a quotient. -/
theorem newton_guess (K R D y N A : Nat) (hK : 0 < K) (hR : 0 < R) (hD0 : 0 < D) (hN : N < D * K) (hE : (((K * R : Nat) : Int) - ((D * y : Nat) : Int)).natAbs ≤ A) (hA : A < R) :
    N * y / (K * R) ≤ N / D + 1 ∧ N / D ≤ N * y / (K * R) + 1 := by
  have hKR : 0 < K * R := Nat.mul_pos hK hR
  have h1 := Nat.div_add_mod (N * y) (K * R)
  have h2 := Nat.mod_lt (N * y) hKR
  generalize N * y / (K * R) = g at *
  generalize N * y % (K * R) = m at *
  obtain ⟨E, hEE⟩ : ∃ E : Int, E = ((K * R : Nat) : Int) - ((D * y : Nat) : Int) := ⟨_, rfl⟩
  rw [← hEE] at hE
  have i1 : ((K * R : Nat) : Int) * (g : Int) + (m : Int) = (N : Int) * (y : Int) := by exact_mod_cast h1
  have i2 : (D : Int) * (y : Int) = ((K * R : Nat) : Int) - E := by rw [hEE]; push_cast; omega
  have key : ((K * R : Nat) : Int) * ((g : Int) * (D : Int)) + (m : Int) * (D : Int) = ((K * R : Nat) : Int) * (N : Int) - (N : Int) * E := by grind
  have b0 : D * K * A < D * K * R := Nat.mul_lt_mul_of_pos_left hA (Nat.mul_pos hD0 hK)
  have b2 : ((N : Int) * E).natAbs < D * K * R := by
    rw [Int.natAbs_mul]
    exact Nat.lt_of_le_of_lt (Nat.mul_le_mul (Nat.le_of_lt hN) hE) b0
  have b3 : (m : Int) * (D : Int) ≤ ((K * R : Nat) : Int) * (D : Int) := Int.mul_le_mul_of_nonneg_right (by omega) (by omega)
  have b4 : 0 ≤ (m : Int) * (D : Int) := Int.mul_nonneg (by omega) (by omega)
  have e1 : ((D * K * R : Nat) : Int) = ((K * R : Nat) : Int) * (D : Int) := by push_cast; grind
  generalize hG : ((K * R : Nat) : Int) = G at *
  have hG0 : 0 < G := by omega
  have u1 : G * ((g : Int) * (D : Int)) ≤ G * ((N : Int) + (D : Int)) := by rw [Int.mul_add]; omega
  have u2 : G * (N : Int) < G * ((g : Int) * (D : Int) + (D : Int) + (D : Int)) := by rw [Int.mul_add, Int.mul_add]; omega
  have v1 : (g : Int) * (D : Int) ≤ (N : Int) + (D : Int) := Int.le_of_mul_le_mul_left u1 hG0
  have v2 : (N : Int) < (g : Int) * (D : Int) + (D : Int) + (D : Int) := Int.lt_of_mul_lt_mul_left u2 (Int.le_of_lt hG0)
  have w1 : g * D ≤ N + D := by exact_mod_cast v1
  have w2 : N < g * D + D + D := by exact_mod_cast v2
  constructor
  · have : g * D / D ≤ (N + D) / D := Nat.div_le_div_right w1
    rw [Nat.mul_div_cancel _ hD0, Nat.add_div_right _ hD0] at this
    exact this
  · have : N / D < g + 2 := by
      rw [Nat.div_lt_iff_lt_mul hD0, Nat.add_mul]
      omega
    omega

/-- A round of Goldschmidt's: the denominator. -/
theorem gold_den (R a a' : Nat) (hR : 0 < R) (e : Int) (he : e.natAbs ≤ a) (den : Nat) (hd : (den : Int) = R - e) (f : Nat) (hf : (f : Int) = R + e) (ha : a * a + R ≤ a' * R) :
    0 ≤ (R : Int) - ((den * f / R : Nat) : Int) ∧ ((R : Int) - ((den * f / R : Nat) : Int)).natAbs ≤ a' := by
  have h1 := Nat.div_add_mod (den * f) R
  have h2 := Nat.mod_lt (den * f) hR
  generalize den * f / R = q at *
  generalize den * f % R = s at *
  have i1 : (R : Int) * (q : Int) + (s : Int) = (den : Int) * (f : Int) := by exact_mod_cast h1
  have key : ((R : Int) - (q : Int)) * (R : Int) = e * e + (s : Int) := by rw [hd, hf] at i1; grind
  obtain ⟨e', hee⟩ : ∃ e' : Int, e' = (R : Int) - (q : Int) := ⟨_, rfl⟩
  rw [← hee] at key ⊢
  have sq : (e * e).natAbs ≤ a * a := by rw [Int.natAbs_mul]; exact Nat.mul_le_mul he he
  have sq0 : 0 ≤ e * e := by
    rcases Int.le_total 0 e with h | h
    · exact Int.mul_nonneg h h
    · exact Int.mul_nonneg_of_nonpos_of_nonpos h h
  have k0 : 0 ≤ e' * (R : Int) := by omega
  have e0 : 0 ≤ e' := by
    apply Int.not_lt.1
    intro h
    have := Int.mul_neg_of_neg_of_pos h (show (0 : Int) < R by omega)
    omega
  refine ⟨e0, ?_⟩
  have n1 : e'.natAbs * R ≤ a * a + R := by
    have : (e' * (R : Int)).natAbs = e'.natAbs * R := by rw [Int.natAbs_mul]; rfl
    rw [← this, key]
    omega
  exact Nat.le_of_mul_le_mul_right (Nat.le_trans n1 ha) hR

/-- .. the numerator: how far N den is from num U. -/
theorem gold_num (R U N a a' b : Nat) (hR : 0 < R) (hU : 0 < U) (hNU : N ≤ U) (den num f : Nat) (hF : (((N * den : Nat) : Int) - ((num * U : Nat) : Int)).natAbs ≤ a * U) (hf : f ≤ R + b) (ha : a * (R + b) + R ≤ a' * R) :
    (((N * (den * f / R) : Nat) : Int) - ((num * f / R * U : Nat) : Int)).natAbs ≤ a' * U := by
  have h1 := Nat.div_add_mod (den * f) R
  have h2 := Nat.mod_lt (den * f) hR
  have h3 := Nat.div_add_mod (num * f) R
  have h4 := Nat.mod_lt (num * f) hR
  generalize den * f / R = q at *
  generalize den * f % R = s at *
  generalize num * f / R = p at *
  generalize num * f % R = r at *
  obtain ⟨F, hFF⟩ : ∃ F : Int, F = ((N * den : Nat) : Int) - ((num * U : Nat) : Int) := ⟨_, rfl⟩
  rw [← hFF] at hF
  have i1 : (R : Int) * (q : Int) + (s : Int) = (den : Int) * (f : Int) := by exact_mod_cast h1
  have i2 : (R : Int) * (p : Int) + (r : Int) = (num : Int) * (f : Int) := by exact_mod_cast h3
  have i3 : F = (N : Int) * (den : Int) - (num : Int) * (U : Int) := by rw [hFF]; push_cast; rfl
  have key : (((N * q : Nat) : Int) - ((p * U : Nat) : Int)) * (R : Int) = F * (f : Int) - (N : Int) * (s : Int) + (r : Int) * (U : Int) := by push_cast; grind
  obtain ⟨F', hF'⟩ : ∃ F' : Int, F' = ((N * q : Nat) : Int) - ((p * U : Nat) : Int) := ⟨_, rfl⟩
  rw [← hF'] at key ⊢
  have b1 : N * s ≤ U * R := Nat.mul_le_mul hNU (Nat.le_of_lt h2)
  have b2 : r * U ≤ U * R := by rw [Nat.mul_comm]; exact Nat.mul_le_mul_left _ (Nat.le_of_lt h4)
  have b3 : (F * (f : Int)).natAbs ≤ a * U * (R + b) := by rw [Int.natAbs_mul]; exact Nat.mul_le_mul hF hf
  have n1 : F'.natAbs * R ≤ a * U * (R + b) + U * R := by
    have : (F' * (R : Int)).natAbs = F'.natAbs * R := by rw [Int.natAbs_mul]; rfl
    rw [← this, key]
    have c1 : ((N * s : Nat) : Int) = (N : Int) * (s : Int) := by push_cast; rfl
    have c2 : ((r * U : Nat) : Int) = (r : Int) * (U : Int) := by push_cast; rfl
    omega
  have n2 : F'.natAbs * R ≤ a' * U * R := by
    have h := Nat.mul_le_mul_left U ha
    have e1 : U * (a * (R + b) + R) = a * U * (R + b) + U * R := by rw [Nat.mul_add]; congr 1; rw [← Nat.mul_assoc, Nat.mul_comm U a]
    have e2 : U * (a' * R) = a' * U * R := by rw [← Nat.mul_assoc, Nat.mul_comm U a']
    omega
  exact Nat.le_of_mul_le_mul_right n2 hR

/-- A digit of a quotient: the row's bounds (8 <= i <= 15), of what is left by sixteenths; so what is left behind it stays within two thirds. -/
def srtRows : List (Int × Int × Int × Int) := [(12, 3, -5, -13), (14, 4, -6, -15), (15, 4, -6, -16), (16, 4, -7, -18), (18, 5, -8, -20), (19, 5, -8, -21), (20, 5, -9, -23), (22, 6, -10, -25)]
def srtPick (b : Int × Int × Int × Int) (y : Int) : Int := if b.1 ≤ y then 2 else if b.2.1 ≤ y then 1 else if b.2.2.1 ≤ y then 0 else if b.2.2.2 ≤ y then -1 else -2
theorem srt_row (b : Int × Int × Int × Int) (i T E L y : Int) (hT : 0 < T) (h1 : i * T ≤ E) (h2 : E < (i + 1) * T) (h3 : y * T ≤ L) (h4 : L < (y + 1) * T) (h5 : -(8 * E) ≤ 3 * L) (h6 : 3 * L ≤ 8 * E)
    (hk2 : 4 * (i + 1) ≤ 3 * b.1) (hk1u : 3 * b.1 ≤ 5 * i) (hk1 : i + 1 ≤ 3 * b.2.1) (hk0u : 3 * b.2.1 ≤ 2 * i) (hk0 : -(2 * i) ≤ 3 * b.2.2.1)
    (hm1u : 3 * b.2.2.1 ≤ -(i + 1)) (hm1 : -(5 * i) ≤ 3 * b.2.2.2) (hm2u : 3 * b.2.2.2 ≤ -(4 * (i + 1))) : -(2 * E) ≤ 3 * (L - srtPick b y * E) ∧ 3 * (L - srtPick b y * E) ≤ 2 * E := by
  have lo : ∀ z : Int, z ≤ y → z * T ≤ L := fun z hz => Int.le_trans (Int.mul_le_mul_of_nonneg_right hz (by omega)) h3
  have hi : ∀ z : Int, y < z → L < z * T := fun z hz => Int.lt_of_lt_of_le h4 (Int.mul_le_mul_of_nonneg_right (by omega) (by omega))
  have m : ∀ u v : Int, u ≤ v → u * T ≤ v * T := fun u v h => Int.mul_le_mul_of_nonneg_right h (by omega)
  have e1 : (4 * (i + 1)) * T = 4 * ((i + 1) * T) := Int.mul_assoc _ _ _
  unfold srtPick
  split
  · rename_i g
    have l := lo _ g
    have a1 := m _ _ hk2
    rw [Int.mul_assoc, Int.mul_assoc] at a1
    constructor <;> omega
  · rename_i g
    have u := hi _ (Int.not_le.1 g)
    have a1 := m _ _ hk1u
    rw [Int.mul_assoc, Int.mul_assoc] at a1
    split
    · rename_i g
      have l := lo _ g
      have a2 := m _ _ hk1
      rw [Int.mul_assoc] at a2
      constructor <;> omega
    · rename_i g
      have u2 := hi _ (Int.not_le.1 g)
      have a2 := m _ _ hk0u
      rw [Int.mul_assoc, Int.mul_assoc] at a2
      split
      · rename_i g
        have l := lo _ g
        have a3 := m _ _ hk0
        rw [Int.neg_mul, Int.mul_assoc, Int.mul_assoc] at a3
        constructor <;> omega
      · rename_i g
        have u3 := hi _ (Int.not_le.1 g)
        have a3 := m _ _ hm1u
        rw [Int.neg_mul, Int.mul_assoc] at a3
        split
        · rename_i g
          have l := lo _ g
          have a4 := m _ _ hm1
          rw [Int.neg_mul, Int.mul_assoc, Int.mul_assoc] at a4
          constructor <;> omega
        · rename_i g
          have u4 := hi _ (Int.not_le.1 g)
          have a4 := m _ _ hm2u
          rw [Int.neg_mul, Int.mul_assoc, Int.mul_assoc] at a4
          constructor <;> omega

end Go.Proofs.YtggchelniblipaaGreatDoor.Rd

namespace Go.Proofs.YtggchelniblipaaGreatDoor.Rd
set_option linter.unusedVariables false
set_option maxRecDepth 100000

/-- 2^128 and 2^160. -/
def K : Nat := 2 ^ 128
def R : Nat := 2 ^ 160
theorem K_pos : 0 < K := by decide
theorem R_pos : 0 < R := by decide
theorem newton_round (D y al al' : Nat) (hD : D < K) (hE : (((K * R : Nat) : Int) - ((D * y : Nat) : Int)).natAbs ≤ al * K) (hal : al ≤ 2 ^ 154) (hA : al * (al + 1) + R ≤ al' * R) :
    D * y / K ≤ 2 * R ∧ (((K * R : Nat) : Int) - ((D * (y * (2 * R - D * y / K) / R) : Nat) : Int)).natAbs ≤ al' * K := by
  have h1 : D * y / K ≤ 2 * R := by
    have : D * y ≤ 2 * R * K := by
      have h2 : al * K ≤ 2 ^ 154 * K := Nat.mul_le_mul_right _ hal
      have h3 : 2 ^ 154 * K ≤ K * R := by decide
      have h4 : 2 * R * K = 2 * (K * R) := by rw [Nat.mul_assoc, Nat.mul_comm R K]
      omega
    exact Nat.div_le_of_le_mul (by rw [Nat.mul_comm K]; exact this)
  refine ⟨h1, newton_step K R D y (al * K) (al' * K) K_pos R_pos hD hE h1 ?_⟩
  have h2 := Nat.mul_le_mul_right (K * K) hA
  have e1 : (al * (al + 1) + R) * (K * K) = al * K * (al * K + K) + R * K * K := by grind
  have e2 : al' * R * (K * K) = al' * K * (R * K) := by grind
  omega

/-- The table's guess for a divisor. -/
def guessOf (D : Nat) : Nat := 2 ^ 17 / (2 * (D / 2 ^ 121) + 1)
theorem guess_table : ∀ j : Nat, j < 128 → 64 ≤ j → (j + 1) * (2 ^ 17 / (2 * j + 1)) ≤ 66560 ∧ 64512 ≤ j * (2 ^ 17 / (2 * j + 1)) ∧ 2 ^ 17 / (2 * j + 1) ≤ 1016 := by decide +kernel
theorem guess_near (D : Nat) (h1 : 2 ^ 127 ≤ D) (h2 : D < 2 ^ 128) : D * guessOf D ≤ 66560 * 2 ^ 121 ∧ 64512 * 2 ^ 121 ≤ D * guessOf D ∧ guessOf D ≤ 1016 := by
  unfold guessOf
  have h3 := Nat.div_add_mod D (2 ^ 121)
  have h4 := Nat.mod_lt D (show 0 < 2 ^ 121 by decide)
  generalize D / 2 ^ 121 = j at *
  generalize D % 2 ^ 121 = r at *
  have j1 : 64 ≤ j := by omega
  have j2 : j < 128 := by omega
  obtain ⟨t1, t2, t3⟩ := guess_table j j2 j1
  generalize 2 ^ 17 / (2 * j + 1) = g at *
  have u : D * g ≤ (2 ^ 121 * (j + 1)) * g := Nat.mul_le_mul_right _ (by omega)
  have l : (2 ^ 121 * j) * g ≤ D * g := Nat.mul_le_mul_right _ (by omega)
  rw [Nat.mul_assoc] at u l
  have u2 := Nat.mul_le_mul_left (2 ^ 121) t1
  have l2 := Nat.mul_le_mul_left (2 ^ 121) t2
  exact ⟨by omega, by omega, t3⟩

/-- Behind some rounds. -/
def newtonY (D : Nat) : Nat → Nat
  | 0 => guessOf D * 2 ^ 151
  | n + 1 => newtonY D n * (2 * R - D * newtonY D n / K) / R
def alphas : Nat → Nat
  | 0 => 2 ^ 154
  | 1 => 2 ^ 149
  | 2 => 2 ^ 139
  | 3 => 2 ^ 119
  | 4 => 2 ^ 79
  | _ => 2
theorem alphas_step : ∀ n, n < 5 → alphas n * (alphas n + 1) + R ≤ alphas (n + 1) * R := by decide
theorem alphas_le : ∀ n, n < 6 → alphas n ≤ 2 ^ 154 := by decide
theorem newtonY_near (D : Nat) (h1 : 2 ^ 127 ≤ D) (h2 : D < 2 ^ 128) : ∀ n, n ≤ 5 → (((K * R : Nat) : Int) - ((D * newtonY D n : Nat) : Int)).natAbs ≤ alphas n * K
  | 0, _ => by
    obtain ⟨g1, g2, _⟩ := guess_near D h1 h2
    show (((K * R : Nat) : Int) - ((D * (guessOf D * 2 ^ 151) : Nat) : Int)).natAbs ≤ 2 ^ 154 * K
    rw [← Nat.mul_assoc]
    unfold K R
    generalize D * guessOf D = x at *
    omega
  | n + 1, hn => (newton_round D (newtonY D n) (alphas n) (alphas (n + 1)) h2 (newtonY_near D h1 h2 n (by omega)) (alphas_le n (by omega)) (alphas_step n (by omega))).2
theorem newtonY_small (D : Nat) (h1 : 2 ^ 127 ≤ D) (h2 : D < 2 ^ 128) (n : Nat) (hn : n ≤ 5) : D * newtonY D n / K ≤ 2 * R ∧ newtonY D n ≤ 2 ^ 162 := by
  have hE := newtonY_near D h1 h2 n hn
  have hal := alphas_le n (by omega)
  have h3 : alphas n * K ≤ 2 ^ 154 * K := Nat.mul_le_mul_right _ hal
  have hx : D * newtonY D n ≤ 2 * (K * R) := by
    have : 2 ^ 154 * K ≤ K * R := by decide
    omega
  constructor
  · exact Nat.div_le_of_le_mul (by rw [show K * (2 * R) = 2 * (K * R) from Nat.mul_left_comm _ _ _]; exact hx)
  · have h4 : 2 ^ 127 * newtonY D n ≤ D * newtonY D n := Nat.mul_le_mul_right _ h1
    have h5 : 2 * (K * R) = 2 ^ 127 * 2 ^ 162 := by decide
    rw [h5] at hx
    exact Nat.le_of_mul_le_mul_left (Nat.le_trans h4 hx) (by decide)
theorem newton_last (D N : Nat) (h1 : 2 ^ 127 ≤ D) (h2 : D < 2 ^ 128) (hN : N < D * K) : N * newtonY D 5 / (K * R) ≤ N / D + 1 ∧ N / D ≤ N * newtonY D 5 / (K * R) + 1 :=
  newton_guess K R D (newtonY D 5) N (2 * K) K_pos R_pos (by have : 0 < 2 ^ 127 := by decide
                                                             omega) hN (newtonY_near D h1 h2 5 (Nat.le_refl _)) (by decide)

/-- Goldschmidt's pair behind some rounds. -/
def goldP (N D : Nat) : Nat → Nat × Nat
  | 0 => (N * guessOf D / 2 ^ 105, D * guessOf D * 2 ^ 23)
  | n + 1 => ((goldP N D n).1 * (2 * R - (goldP N D n).2) / R, (goldP N D n).2 * (2 * R - (goldP N D n).2) / R)
theorem goldP_succ (N D n : Nat) : goldP N D (n + 1) = ((goldP N D n).1 * (2 * R - (goldP N D n).2) / R, (goldP N D n).2 * (2 * R - (goldP N D n).2) / R) := rfl
def dens : Nat → Nat
  | 0 => 2 ^ 154
  | 1 => 2 ^ 149
  | 2 => 2 ^ 139
  | 3 => 2 ^ 119
  | 4 => 2 ^ 79
  | _ => 2
theorem dens_step : ∀ n, n < 5 → dens n * dens n + R ≤ dens (n + 1) * R := by decide
theorem dens_le : ∀ n, n < 6 → dens n ≤ 2 ^ 154 := by decide
def nums (n : Nat) : Nat := 2 * n + 1
theorem nums_step : ∀ n, n < 5 → nums n * (R + dens n) + R ≤ nums (n + 1) * R := by decide
def goldI (N D n : Nat) (p : Nat × Nat) : Prop :=
  ((R : Int) - (p.2 : Int)).natAbs ≤ dens n ∧ (0 < n → p.2 ≤ R) ∧ (((N * p.2 : Nat) : Int) - ((p.1 * (D * K) : Nat) : Int)).natAbs ≤ nums n * (D * K)
theorem gold_first (N x D L C : Nat) (hL : 0 < L) : (((x * (D * C) : Nat) : Int) - ((x / L * (D * (L * C)) : Nat) : Int)).natAbs ≤ D * (L * C) := by
  have h3 := Nat.div_add_mod x L
  have h4 := Nat.mod_lt x hL
  generalize x / L = q at *
  generalize x % L = s at *
  subst h3
  have e1 : (L * q + s) * (D * C) = q * (D * (L * C)) + s * (D * C) := by grind
  have e2 : s * (D * C) ≤ D * (L * C) := by
    rw [Nat.mul_left_comm D]
    exact Nat.mul_le_mul_right _ (Nat.le_of_lt h4)
  omega
theorem K_parts : K = 2 ^ 105 * 2 ^ 23 := by decide
theorem goldI_zero (N D : Nat) (h1 : 2 ^ 127 ≤ D) (h2 : D < 2 ^ 128) : goldI N D 0 (goldP N D 0) := by
  obtain ⟨g1, g2, _⟩ := guess_near D h1 h2
  refine ⟨?_, fun h => absurd h (by omega), ?_⟩
  · show ((R : Int) - ((D * guessOf D * 2 ^ 23 : Nat) : Int)).natAbs ≤ 2 ^ 154
    unfold R
    generalize D * guessOf D = x at *
    omega
  · have h := gold_first N (N * guessOf D) D (2 ^ 105) (2 ^ 23) (by decide)
    rw [← K_parts, show N * guessOf D * (D * 2 ^ 23) = N * (D * guessOf D * 2 ^ 23) by grind] at h
    show (((N * (D * guessOf D * 2 ^ 23) : Nat) : Int) - ((N * guessOf D / 2 ^ 105 * (D * K) : Nat) : Int)).natAbs ≤ 1 * (D * K)
    rw [Nat.one_mul]
    exact h
theorem goldI_succ (N D n : Nat) (hD0 : 0 < D) (hN : N ≤ D * K) (hn : n < 5) (p : Nat × Nat) (ih : goldI N D n p) : goldI N D (n + 1) (p.1 * (2 * R - p.2) / R, p.2 * (2 * R - p.2) / R) := by
  have hle := dens_le n (by omega)
  have hb : 2 ^ 154 ≤ R := by decide
  have hDK : 0 < D * K := Nat.mul_pos hD0 K_pos
  have ds := dens_step n hn
  have ns := nums_step n hn
  unfold goldI at *
  generalize dens n = dn at *
  generalize dens (n + 1) = dn' at *
  generalize nums n = nn at *
  generalize nums (n + 1) = nn' at *
  obtain ⟨num, den⟩ := p
  simp only at ih ⊢
  obtain ⟨i1, i2, i3⟩ := ih
  have hR := R_pos
  generalize R = R' at *
  have hf : ((2 * R' - den : Nat) : Int) = (R' : Int) + ((R' : Int) - (den : Int)) := by omega
  obtain ⟨d1, d2⟩ := gold_den R' dn dn' hR ((R' : Int) - (den : Int)) i1 den (by omega) (2 * R' - den) hf ds
  have hm := gold_num R' (D * K) N nn nn' dn hR hDK hN den num (2 * R' - den) i3 (by omega) ns
  exact ⟨d2, fun _ => by omega, hm⟩
theorem goldP_near (N D : Nat) (h1 : 2 ^ 127 ≤ D) (h2 : D < 2 ^ 128) (hN : N ≤ D * K) (n : Nat) (hn : n ≤ 5) : goldI N D n (goldP N D n) := by
  induction n with
  | zero => exact goldI_zero N D h1 h2
  | succ n ih =>
    rw [goldP_succ]
    exact goldI_succ N D n (by have : 0 < 2 ^ 127 := by decide
                               omega) hN (by omega) _ (ih (by omega))

theorem gold_last (N D : Nat) (h1 : 2 ^ 127 ≤ D) (h2 : D < 2 ^ 128) (hN : N < D * K) : (goldP N D 5).1 / 2 ^ 32 ≤ N / D + 1 ∧ N / D ≤ (goldP N D 5).1 / 2 ^ 32 + 1 := by
  obtain ⟨i1, i2, i3⟩ := goldP_near N D h1 h2 (Nat.le_of_lt hN) 5 (Nat.le_refl _)
  rw [show nums 5 = 11 from rfl] at i3
  rw [show dens 5 = 2 from rfl] at i1
  have i2 := i2 (by omega)
  have hD0 : 0 < D := by have : 0 < 2 ^ 127 := by decide
                         omega
  generalize (goldP N D 5).1 = num at *
  generalize (goldP N D 5).2 = den at *
  have h3 := Nat.div_add_mod num (2 ^ 32)
  have h4 := Nat.mod_lt num (show 0 < 2 ^ 32 by decide)
  generalize num / 2 ^ 32 = g at *
  generalize num % 2 ^ 32 = s at *
  obtain ⟨e, he⟩ : ∃ e, den + e = R := ⟨R - den, by omega⟩
  have he2 : e ≤ 2 := by
    omega
  have e1 : N * den + N * e = N * R := by rw [← Nat.mul_add, he]
  have e2 : N * e ≤ 2 * (D * K) := by rw [Nat.mul_comm]; exact Nat.mul_le_mul he2 (Nat.le_of_lt hN)
  have e3 : N * R = N * 2 ^ 32 * K := by
    have : R = 2 ^ 32 * K := by decide
    rw [this, Nat.mul_assoc]
  have e4 : num * (D * K) = num * D * K := (Nat.mul_assoc _ _ _).symm
  have lo : g * 2 ^ 32 * D * K ≤ num * D * K := Nat.mul_le_mul_right _ (Nat.mul_le_mul_right _ (by omega))
  have hi : num * D * K ≤ (g + 1) * 2 ^ 32 * D * K := Nat.mul_le_mul_right _ (Nat.mul_le_mul_right _ (by omega))
  have u : g * 2 ^ 32 * D * K ≤ (N * 2 ^ 32 + 11 * D) * K := by
    have : (N * 2 ^ 32 + 11 * D) * K = N * 2 ^ 32 * K + 11 * (D * K) := by rw [Nat.add_mul, Nat.mul_assoc 11]
    omega
  have v : N * 2 ^ 32 * K ≤ ((g + 1) * 2 ^ 32 * D + 13 * D) * K := by
    have : ((g + 1) * 2 ^ 32 * D + 13 * D) * K = (g + 1) * 2 ^ 32 * D * K + 13 * (D * K) := by rw [Nat.add_mul, Nat.mul_assoc 13]
    omega
  have u1 := Nat.le_of_mul_le_mul_right u K_pos
  have v1 := Nat.le_of_mul_le_mul_right v K_pos
  have e5 : g * 2 ^ 32 * D = g * D * 2 ^ 32 := by grind
  have e6 : (g + 1) * 2 ^ 32 * D = g * D * 2 ^ 32 + D * 2 ^ 32 := by grind
  rw [e5] at u1
  rw [e6] at v1
  have w1 : g * D ≤ N + D := by omega
  have w2 : N < g * D + D + D := by omega
  constructor
  · have : g * D / D ≤ (N + D) / D := Nat.div_le_div_right w1
    rw [Nat.mul_div_cancel _ hD0, Nat.add_div_right _ hD0] at this
    exact this
  · have : N / D < g + 2 := by
      rw [Nat.div_lt_iff_lt_mul hD0, Nat.add_mul]
      omega
    omega

end Go.Proofs.YtggchelniblipaaGreatDoor.Rd

namespace Go.Proofs.YtggchelniblipaaGreatDoor.Rd
set_option linter.unusedVariables false
set_option maxRecDepth 100000

theorem natAbs_mul_le {a b : Int} {x y : Nat} (h1 : a.natAbs ≤ x) (h2 : b.natAbs ≤ y) : (a * b).natAbs ≤ x * y := by rw [Int.natAbs_mul]; exact Nat.mul_le_mul h1 h2

/-- The identity behind a round. -/
theorem nroot_ident (R Q n y sq r1 t r2 f q r3 : Int) (i1 : y * y = R * sq + r1) (i2 : n * sq = Q * t + r2) (i3 : f + t = 3 * R) (i4 : y * f = 2 * R * q + r3) (W T Dl xi : Int) (hW : W = R * Q) (hT : T = R * W)
    (hD : Dl = T - n * (y * y)) (hx : xi = y * (R * r2 + n * r1) - W * r3) : 4 * T * T * (T - n * (q * q)) = 3 * T * (Dl * Dl) + Dl * Dl * Dl - 2 * (n * y) * ((2 * T + Dl) * xi) - n * (xi * xi) := by
  have a : W * t = n * (y * y) - (R * r2 + n * r1) := by
    have h : n * (R * sq + r1) = R * (n * sq) + n * r1 := by grind
    rw [hW, i1, h, i2, Int.mul_add, ← Int.mul_assoc]
    omega
  have b : W * f = 2 * T + Dl + (R * r2 + n * r1) := by
    have : W * f + W * t = 3 * T := by rw [← Int.mul_add, i3, hT]; grind
    omega
  have c : 2 * T * q = y * (2 * T + Dl) + xi := by
    have : 2 * T * q = W * (y * f) - W * r3 := by rw [i4, hT]; grind
    rw [this, show W * (y * f) = y * (W * f) by grind, b, hx]; grind
  have d : 4 * T * T * (n * (q * q)) = n * ((2 * T * q) * (2 * T * q)) := by grind
  rw [Int.mul_sub, d, c]
  have e : n * (y * y) = T - Dl := by omega
  have e2 : n * ((y * (2 * T + Dl) + xi) * (y * (2 * T + Dl) + xi)) = n * (y * y) * ((2 * T + Dl) * (2 * T + Dl)) + 2 * (n * y) * ((2 * T + Dl) * xi) + n * (xi * xi) := by grind
  rw [e2, e]
  grind

theorem nroot_step (R Q n y d d' : Nat) (hR9 : 9 ≤ R) (hQ : 0 < Q) (hn : n ≤ Q) (hy : y ≤ 3 * R) (hd : d ≤ R) (hE : (((R * (R * Q) : Nat) : Int) - ((n * (y * y) : Nat) : Int)).natAbs ≤ d * (R * Q)) (ht : n * (y * y / R) / Q ≤ 3 * R)
    (hd' : d * d + 28 * R ≤ d' * R) : (((R * (R * Q) : Nat) : Int) - ((n * (y * (3 * R - n * (y * y / R) / Q) / (2 * R) * (y * (3 * R - n * (y * y / R) / Q) / (2 * R))) : Nat) : Int)).natAbs ≤ d' * (R * Q) := by
  have hR : 0 < R := by omega
  have h1 := Nat.div_add_mod (y * y) R
  have h2 := Nat.mod_lt (y * y) hR
  generalize y * y / R = sq at *
  generalize y * y % R = r1 at *
  have h3 := Nat.div_add_mod (n * sq) Q
  have h4 := Nat.mod_lt (n * sq) hQ
  generalize n * sq / Q = t at *
  generalize n * sq % Q = r2 at *
  obtain ⟨f, hf⟩ : ∃ f, f = 3 * R - t := ⟨_, rfl⟩
  rw [← hf]
  have h5 := Nat.div_add_mod (y * f) (2 * R)
  have h6 := Nat.mod_lt (y * f) (show 0 < 2 * R by omega)
  generalize y * f / (2 * R) = q at *
  generalize y * f % (2 * R) = r3 at *
  obtain ⟨W, hW⟩ : ∃ W, W = R * Q := ⟨_, rfl⟩
  obtain ⟨T, hT⟩ : ∃ T, T = R * W := ⟨_, rfl⟩
  rw [← hW] at hE ⊢
  rw [← hT] at hE ⊢
  have id := nroot_ident R Q n y sq r1 t r2 f q r3 (by exact_mod_cast h1.symm) (by exact_mod_cast h3.symm) (by omega) (by exact_mod_cast h5.symm) W T ((T : Int) - n * (y * y)) ((y : Int) * (R * r2 + n * r1) - W * r3) (by exact_mod_cast hW) (by exact_mod_cast hT) rfl rfl
  obtain ⟨Dl, hDl⟩ : ∃ Dl : Int, Dl = (T : Int) - n * (y * y) := ⟨_, rfl⟩
  obtain ⟨xi, hxi⟩ : ∃ xi : Int, xi = (y : Int) * (R * r2 + n * r1) - W * r3 := ⟨_, rfl⟩
  rw [← hDl, ← hxi] at id
  have bD : Dl.natAbs ≤ d * W := by rw [hDl]; exact_mod_cast hE
  have hWp : 0 < W := by rw [hW]; exact Nat.mul_pos hR hQ
  have bx : xi.natAbs ≤ 6 * T := by
    have u1 : R * r2 + n * r1 ≤ 2 * W := by
      have a1 : R * r2 ≤ R * Q := Nat.mul_le_mul_left _ (Nat.le_of_lt h4)
      have a2 : n * r1 ≤ Q * R := Nat.mul_le_mul hn (Nat.le_of_lt h2)
      rw [Nat.mul_comm Q R] at a2
      omega
    have u2 : y * (R * r2 + n * r1) ≤ 3 * R * (2 * W) := Nat.mul_le_mul hy u1
    have u3 : W * r3 ≤ W * (2 * R) := Nat.mul_le_mul_left _ (Nat.le_of_lt h6)
    have e1 : 3 * R * (2 * W) = 6 * T := by rw [hT]; grind
    have e2 : W * (2 * R) = 2 * T := by rw [hT]; grind
    have c1 : ((y * (R * r2 + n * r1) : Nat) : Int) = (y : Int) * (R * r2 + n * r1) := by push_cast; rfl
    have c2 : ((W * r3 : Nat) : Int) = (W : Int) * r3 := by push_cast; rfl
    omega
  have bny : n * y ≤ 3 * W := by
    have := Nat.mul_le_mul hn hy
    rw [show Q * (3 * R) = 3 * W by rw [hW]; grind] at this
    exact this
  have bT : d * W ≤ T := by rw [hT]; exact Nat.mul_le_mul_right _ hd
  have p1 : (Dl * Dl).natAbs ≤ d * W * (d * W) := natAbs_mul_le bD bD
  have p2 : (Dl * Dl * Dl).natAbs ≤ d * W * (d * W) * T := natAbs_mul_le p1 (Nat.le_trans bD bT)
  have p3 : ((2 * (T : Int) + Dl) * xi).natAbs ≤ 3 * T * (6 * T) := natAbs_mul_le (by omega) bx
  have p4 : (((n : Int) * y) * ((2 * (T : Int) + Dl) * xi)).natAbs ≤ 3 * W * (3 * T * (6 * T)) := natAbs_mul_le (by rw [show ((n : Int) * y) = ((n * y : Nat) : Int) by push_cast; rfl]; exact bny) p3
  have p5 : ((n : Int) * (xi * xi)).natAbs ≤ Q * (6 * T * (6 * T)) := natAbs_mul_le (by omega) (natAbs_mul_le bx bx)
  have p6 : ((T : Int) * (Dl * Dl)).natAbs ≤ T * (d * W * (d * W)) := natAbs_mul_le (by omega) p1
  have tot : (4 * (T : Int) * T * ((T : Int) - n * (q * q))).natAbs ≤ 3 * (T * (d * W * (d * W))) + d * W * (d * W) * T + 2 * (3 * W * (3 * T * (6 * T))) + Q * (6 * T * (6 * T)) := by
    rw [id]
    have e1 : 3 * (T : Int) * (Dl * Dl) = 3 * ((T : Int) * (Dl * Dl)) := by grind
    have e2 : 2 * ((n : Int) * y) * ((2 * (T : Int) + Dl) * xi) = 2 * (((n : Int) * y) * ((2 * (T : Int) + Dl) * xi)) := by grind
    rw [e1, e2]
    omega
  obtain ⟨E', hE'⟩ : ∃ E' : Int, E' = (T : Int) - n * (q * q) := ⟨_, rfl⟩
  rw [← hE'] at tot
  have goal' : ((T : Int) - ((n * (q * q) : Nat) : Int)) = E' := by rw [hE']; push_cast; rfl
  rw [goal']
  have na : (4 * (T : Int) * T * E').natAbs = 4 * (T * T) * E'.natAbs := by
    rw [Int.natAbs_mul, show 4 * (T : Int) * T = ((4 * (T * T) : Nat) : Int) by push_cast; grind]; rfl
  rw [na] at tot
  have m := Nat.mul_le_mul_right R tot
  have f1 : 3 * (T * (d * W * (d * W))) * R + d * W * (d * W) * T * R = 4 * (T * T) * (d * d * W) := by
    have : T * T = T * (R * W) := by rw [← hT]
    rw [this]; grind
  have f2 : 2 * (3 * W * (3 * T * (6 * T))) * R = 4 * (T * T) * (27 * R * W) := by grind
  have f3 : Q * (6 * T * (6 * T)) * R = 4 * (T * T) * (9 * W) := by rw [hW]; grind
  have m2 : 4 * (T * T) * E'.natAbs * R ≤ 4 * (T * T) * (d * d * W) + 4 * (T * T) * (27 * R * W) + 4 * (T * T) * (9 * W) := by
    rw [← f1, ← f2, ← f3]
    rw [Nat.add_mul, Nat.add_mul, Nat.add_mul] at m
    exact m
  have m3 : 4 * (T * T) * (E'.natAbs * R) ≤ 4 * (T * T) * (d' * W * R) := by
    rw [← Nat.mul_assoc]
    refine Nat.le_trans m2 ?_
    rw [← Nat.mul_add, ← Nat.mul_add]
    refine Nat.mul_le_mul_left _ ?_
    have g1 := Nat.mul_le_mul_right W hd'
    have g2 : 9 * W ≤ R * W := Nat.mul_le_mul_right _ hR9
    have g3 : (d * d + 28 * R) * W = d * d * W + 27 * R * W + R * W := by grind
    have g4 : d' * R * W = d' * W * R := by grind
    omega
  have hTp : 0 < T := by rw [hT]; exact Nat.mul_pos hR hWp
  exact Nat.le_of_mul_le_mul_right (Nat.le_of_mul_le_mul_left m3 (by have := Nat.mul_pos hTp hTp; omega)) hR

end Go.Proofs.YtggchelniblipaaGreatDoor.Rd

namespace Go.Proofs.YtggchelniblipaaGreatDoor.Rd
set_option linter.unusedVariables false
set_option maxRecDepth 100000

theorem sq_le_of_le {a b : Nat} (h : a ≤ b) : a * a ≤ b * b := Nat.mul_le_mul h h

/-- A number whose square is near is near the root. -/
theorem root_near (n s g x R : Nat) (hR : 0 < R) (h1 : s * s ≤ n) (h2 : n < (s + 1) * (s + 1)) (lo : g * g * R ≤ n * R + x) (hi : n * R ≤ (g + 1) * (g + 1) * R + x) (hx : x + R < 2 * s * R) : g ≤ s + 1 ∧ s ≤ g + 1 := by
  have e1 : (s + 1) * (s + 1) = s * s + 2 * s + 1 := by grind
  constructor
  · apply Nat.not_lt.1
    intro h
    have h3 := sq_le_of_le (show s + 2 ≤ g by omega)
    have e2 : (s + 2) * (s + 2) = s * s + 4 * s + 4 := by grind
    have h4 : n + 2 * s + 1 ≤ g * g := by omega
    have h5 := Nat.mul_le_mul_right R h4
    have e3 : (n + 2 * s + 1) * R = n * R + 2 * s * R + R := by grind
    omega
  · apply Nat.not_lt.1
    intro h
    obtain ⟨u, rfl⟩ : ∃ u, s = u + 1 := ⟨s - 1, by omega⟩
    have h3 := sq_le_of_le (show g + 1 ≤ u by omega)
    have h4 := Nat.mul_le_mul_right R h3
    have h5 := Nat.mul_le_mul_right R h1
    have e2 : (u + 1) * (u + 1) * R + R = u * u * R + 2 * (u + 1) * R := by grind
    omega

/-- The guess for a root by a reciprocal. -/
theorem nroot_guess (R C n y s d : Nat) (hR : 0 < R) (hC : 0 < C) (h1 : s * s ≤ n) (h2 : n < (s + 1) * (s + 1)) (hE : (((R * (R * (C * C)) : Nat) : Int) - ((n * (y * y) : Nat) : Int)).natAbs ≤ d * (R * (C * C))) (hd : n * d + R < 2 * s * R) :
    n * y / (R * C) ≤ s + 1 ∧ s ≤ n * y / (R * C) + 1 := by
  have hG : 0 < R * C := Nat.mul_pos hR hC
  have h3 := Nat.div_add_mod (n * y) (R * C)
  have h4 := Nat.mod_lt (n * y) hG
  generalize n * y / (R * C) = g at *
  generalize n * y % (R * C) = m at *
  obtain ⟨W, hW⟩ : ∃ W, W = R * (C * C) := ⟨_, rfl⟩
  have hWp : 0 < W := by rw [hW]; exact Nat.mul_pos hR (Nat.mul_pos hC hC)
  rw [← hW] at hE
  have eG : (R * C) * (R * C) = R * W := by rw [hW]; grind
  have a1 : R * C * g ≤ n * y := by omega
  have a2 : n * y ≤ R * C * (g + 1) := by rw [Nat.mul_add]; omega
  have b1 := sq_le_of_le a1
  have b2 := sq_le_of_le a2
  have e1 : R * C * g * (R * C * g) = g * g * R * W := by
    have : R * C * g * (R * C * g) = g * g * ((R * C) * (R * C)) := by grind
    rw [this, eG, ← Nat.mul_assoc]
  have e2 : R * C * (g + 1) * (R * C * (g + 1)) = (g + 1) * (g + 1) * R * W := by
    have : R * C * (g + 1) * (R * C * (g + 1)) = (g + 1) * (g + 1) * ((R * C) * (R * C)) := by grind
    rw [this, eG, ← Nat.mul_assoc]
  have e3 : n * y * (n * y) = n * (n * (y * y)) := by grind
  rw [e1, e3] at b1
  rw [e2, e3] at b2
  have c1 : n * (y * y) ≤ R * W + d * W := by omega
  have c2 : R * W ≤ n * (y * y) + d * W := by omega
  have f1 := Nat.mul_le_mul_left n c1
  have f2 := Nat.mul_le_mul_left n c2
  have lo : g * g * R ≤ n * R + n * d := by
    have : g * g * R * W ≤ (n * R + n * d) * W := by
      have e : n * (R * W + d * W) = (n * R + n * d) * W := by grind
      omega
    exact Nat.le_of_mul_le_mul_right this hWp
  have hi : n * R ≤ (g + 1) * (g + 1) * R + n * d := by
    have : n * R * W ≤ ((g + 1) * (g + 1) * R + n * d) * W := by
      have e : n * (n * (y * y) + d * W) = n * (n * (y * y)) + n * d * W := by grind
      have e' : ((g + 1) * (g + 1) * R + n * d) * W = (g + 1) * (g + 1) * R * W + n * d * W := Nat.add_mul _ _ _
      have e'' : n * (R * W) = n * R * W := (Nat.mul_assoc _ _ _).symm
      omega
    exact Nat.le_of_mul_le_mul_right this hWp
  exact root_near n s g (n * d) R hR h1 h2 lo hi hd

/-- The greatest number, from s on, whose square isn't above v. -/
def isq : Nat → Nat → Nat → Nat
  | 0, s, _ => s
  | f + 1, s, v => if (s + 1) * (s + 1) ≤ v then isq f (s + 1) v else s
/-- The table's guess for a radicand. -/
def rguessAt (i : Nat) : Nat := isq 2000 0 (2 ^ 26 / (2 * i + 1))
theorem rguess_table : ∀ i : Nat, i < 128 → 32 ≤ i → rguessAt i * rguessAt i * (i + 1) ≤ 34603008 ∧ 32505856 ≤ rguessAt i * rguessAt i * i ∧ rguessAt i ≤ 1016 := by decide +kernel
def nrootY (n : Nat) : Nat → Nat
  | 0 => rguessAt (n / 2 ^ 249) * 2 ^ 151
  | m + 1 => nrootY n m * (3 * R - n * (nrootY n m * nrootY n m / R) / (K * K)) / (2 * R)
def deltas : Nat → Nat
  | 0 => 2 ^ 155
  | 1 => 2 ^ 151
  | 2 => 2 ^ 143
  | 3 => 2 ^ 127
  | 4 => 2 ^ 95
  | _ => 2 ^ 31
theorem deltas_step : ∀ n, n < 5 → deltas n * deltas n + 28 * R ≤ deltas (n + 1) * R := by decide
theorem deltas_le : ∀ n, n < 6 → deltas n ≤ 2 ^ 155 := by decide
def rootI (n d y : Nat) : Prop := (((R * (R * (K * K)) : Nat) : Int) - ((n * (y * y) : Nat) : Int)).natAbs ≤ d * (R * (K * K))
theorem rootI_small (n d y : Nat) (h1 : 2 ^ 254 ≤ n) (hd : d ≤ 2 ^ 155) (h : rootI n d y) : y ≤ 3 * R ∧ n * (y * y / R) / (K * K) ≤ 3 * R := by
  unfold rootI at h
  have hW : 0 < R * (K * K) := by decide
  have hdW : d * (R * (K * K)) ≤ R * (R * (K * K)) := Nat.mul_le_mul_right _ (Nat.le_trans hd (by decide))
  have hx : n * (y * y) ≤ 2 * (R * (R * (K * K))) := by omega
  constructor
  · apply Nat.not_lt.1
    intro hy
    have h3 := Nat.mul_le_mul h1 (sq_le_of_le (show 3 * R ≤ y by omega))
    have h4 : 2 * (R * (R * (K * K))) < 2 ^ 254 * (3 * R * (3 * R)) := by decide
    omega
  · have h5 : n * (y * y / R) * R ≤ n * (y * y) := by
      rw [Nat.mul_assoc]
      exact Nat.mul_le_mul_left _ (Nat.div_mul_le_self _ _)
    have h6 : n * (y * y / R) * R ≤ 3 * R * (K * K) * R := by
      have : 2 * (R * (R * (K * K))) ≤ 3 * R * (K * K) * R := by decide
      omega
    have h7 := Nat.le_of_mul_le_mul_right h6 R_pos
    exact Nat.div_le_of_le_mul (by rw [Nat.mul_comm (K * K)]; exact h7)
theorem seed_aux (A C n g i r : Nat) (h3 : A * i + r = n) (h4 : r < A) (t1 : g * g * (i + 1) ≤ 34603008) (t2 : 32505856 ≤ g * g * i) :
    (((A * 33554432 * (C * C) : Nat) : Int) - ((n * (g * C * (g * C)) : Nat) : Int)).natAbs ≤ A * 1048576 * (C * C) := by
  have u : n * (g * g) ≤ A * (g * g * (i + 1)) := by
    rw [show A * (g * g * (i + 1)) = (A * i + A) * (g * g) by grind]
    exact Nat.mul_le_mul_right _ (by omega)
  have l : A * (g * g * i) ≤ n * (g * g) := by
    rw [show A * (g * g * i) = (A * i) * (g * g) by grind]
    exact Nat.mul_le_mul_right _ (by omega)
  have u2 := Nat.le_trans u (Nat.mul_le_mul_left A t1)
  have l2 := Nat.le_trans (Nat.mul_le_mul_left A t2) l
  have e : n * (g * C * (g * C)) = n * (g * g) * (C * C) := by grind
  rw [e]
  have U := Nat.mul_le_mul_right (C * C) u2
  have L := Nat.mul_le_mul_right (C * C) l2
  generalize n * (g * g) * (C * C) = x at *
  have e1 : A * 34603008 * (C * C) = 34603008 * (A * (C * C)) := by grind
  have e2 : A * 32505856 * (C * C) = 32505856 * (A * (C * C)) := by grind
  have e3 : A * 33554432 * (C * C) = 33554432 * (A * (C * C)) := by grind
  have e4 : A * 1048576 * (C * C) = 1048576 * (A * (C * C)) := by grind
  rw [e3, e4]
  rw [e1] at U
  rw [e2] at L
  generalize A * (C * C) = z at *
  omega
theorem rootI_zero (n : Nat) (h1 : 2 ^ 254 ≤ n) (h2 : n < K * K) : rootI n (2 ^ 155) (rguessAt (n / 2 ^ 249) * 2 ^ 151) := by
  have h3 := Nat.div_add_mod n (2 ^ 249)
  have h4 := Nat.mod_lt n (show 0 < 2 ^ 249 by decide)
  have i1 : 32 ≤ n / 2 ^ 249 := by omega
  have i2 : n / 2 ^ 249 < 128 := by
    have : K * K = 2 ^ 249 * 128 := by decide
    rw [this] at h2
    exact Nat.div_lt_of_lt_mul h2
  generalize n / 2 ^ 249 = i at *
  generalize n % 2 ^ 249 = r at *
  obtain ⟨t1, t2, _⟩ := rguess_table i i2 i1
  generalize rguessAt i = g at *
  have eR : R * (R * (K * K)) = 2 ^ 249 * 33554432 * (2 ^ 151 * 2 ^ 151) := by decide
  have eW : 2 ^ 155 * (R * (K * K)) = 2 ^ 249 * 1048576 * (2 ^ 151 * 2 ^ 151) := by decide
  unfold rootI
  rw [eR, eW]
  exact seed_aux (2 ^ 249) (2 ^ 151) n g i r h3 h4 t1 t2
theorem nrootY_near (n : Nat) (h1 : 2 ^ 254 ≤ n) (h2 : n < K * K) (m : Nat) (hm : m ≤ 5) : rootI n (deltas m) (nrootY n m) := by
  induction m with
  | zero => exact rootI_zero n h1 h2
  | succ m ih =>
    have ih := ih (by omega)
    have hs := rootI_small n _ _ h1 (deltas_le m (by omega)) ih
    exact nroot_step R (K * K) n (nrootY n m) (deltas m) (deltas (m + 1)) (by decide) (by decide) (Nat.le_of_lt h2) hs.1 (Nat.le_trans (deltas_le m (by omega)) (by decide)) ih hs.2 (deltas_step m (by omega))
theorem nroot_last (n s : Nat) (h1 : 2 ^ 254 ≤ n) (h2 : n < K * K) (hs1 : s * s ≤ n) (hs2 : n < (s + 1) * (s + 1)) : n * nrootY n 5 / (R * K) ≤ s + 1 ∧ s ≤ n * nrootY n 5 / (R * K) + 1 := by
  refine nroot_guess R K n (nrootY n 5) s (2 ^ 31) R_pos K_pos hs1 hs2 (nrootY_near n h1 h2 5 (Nat.le_refl _)) ?_
  have hs : 2 ^ 127 ≤ s := by
    apply Nat.not_lt.1
    intro h
    have h3 := sq_le_of_le (show s + 1 ≤ 2 ^ 127 by omega)
    have h4 : 2 ^ 127 * 2 ^ 127 = 2 ^ 254 := by decide
    omega
  have h3 : 2 * 2 ^ 127 * R ≤ 2 * s * R := Nat.mul_le_mul_right _ (Nat.mul_le_mul_left _ hs)
  have h4 : n * 2 ^ 31 ≤ K * K * 2 ^ 31 := Nat.mul_le_mul_right _ (Nat.le_of_lt h2)
  have h5 : K * K * 2 ^ 31 + R < 2 * 2 ^ 127 * R := by decide
  exact Nat.lt_of_le_of_lt (Nat.add_le_add_right h4 R) (Nat.lt_of_lt_of_le h5 h3)

end Go.Proofs.YtggchelniblipaaGreatDoor.Rd
