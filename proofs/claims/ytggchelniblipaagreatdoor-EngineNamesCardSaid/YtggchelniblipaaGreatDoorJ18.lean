/- Laws of the walk: calls of method values, and through interfaces; what goldroot's pair and its rounds answer. -/
import Derived.Test.YtggchelniblipaaGreatDoorJ13
import Derived.Test.YtggchelniblipaaGreatDoorJ17
namespace Go.Proofs.YtggchelniblipaaGreatDoor.Rd
set_option linter.unusedVariables false
set_option maxRecDepth 100000

/-- The identity behind a round: S = H R, R = 2 H. -/
theorem groot_ident (H R g h t r1 f g' r2 h' r3 S Dl : Int) (hR : R = 2 * H) (hS : S = H * R) (hD : Dl = S - g * h) (i1 : g * h = R * t + r1) (i2 : f + t = 3 * H) (i3 : g * f = R * g' + r2) (i4 : h * f = R * h' + r3) :
    4 * S * S * (S - g' * h') = 3 * S * (Dl * Dl) + Dl * Dl * Dl - (S - Dl) * ((4 * S + 2 * Dl) * r1 + r1 * r1) + 2 * S * (g * f * r3 + h * f * r2 - r2 * r3) := by
  have e1 : R * f = 2 * S + Dl + r1 := by
    have : R * f + R * t = R * (3 * H) := by rw [← Int.mul_add, i2]
    have e : R * (3 * H) = 3 * S := by rw [hS]; grind
    omega
  have e2 : R * R = 2 * S := by rw [hS, hR]; grind
  have e3 : (R * g') * (R * h') = g * h * (f * f) - (g * f * r3 + h * f * r2 - r2 * r3) := by
    have a : R * g' = g * f - r2 := by omega
    have b : R * h' = h * f - r3 := by omega
    rw [a, b]; grind
  have e4 : g * h = S - Dl := by omega
  have e5 : 4 * S * S * (g' * h') = 2 * S * ((R * g') * (R * h')) := by
    have : (R * g') * (R * h') = R * R * (g' * h') := by grind
    rw [this, e2]; grind
  have e6 : 2 * S * (g * h * (f * f)) = (S - Dl) * ((2 * S + Dl + r1) * (2 * S + Dl + r1)) := by
    rw [← e1, e4, ← e2]; grind
  rw [Int.mul_sub, e5, e3, Int.mul_sub, e6]
  grind

/-- The ratio drifts by little. -/
theorem groot_ratio (R A n g h f g' r2 h' r3 F : Int) (hF : F = A * g - n * h) (i3 : g * f = R * g' + r2) (i4 : h * f = R * h' + r3) : (A * g' - n * h') * R = F * f - A * r2 + n * r3 := by
  have a : R * g' = g * f - r2 := by omega
  have b : R * h' = h * f - r3 := by omega
  have : (A * g' - n * h') * R = A * (R * g') - n * (R * h') := by grind
  rw [this, a, b, hF]; grind

theorem sum3 {a b c : Int} {x y : Nat} (h1 : a.natAbs ≤ x) (h2 : b.natAbs ≤ x) (h3 : c.natAbs ≤ y) : (a + b - c).natAbs ≤ 2 * x + y := by omega
theorem sum2 {a b : Int} {x y : Nat} (h1 : a.natAbs ≤ x) (h2 : b.natAbs ≤ y) : (a + b).natAbs ≤ x + y := by omega
theorem sum_bound {a b c e : Int} {x y z u : Nat} (h1 : a.natAbs ≤ x) (h2 : b.natAbs ≤ y) (h3 : c.natAbs ≤ z) (h4 : e.natAbs ≤ u) : (3 * a + b - c + 2 * e).natAbs ≤ 3 * x + y + z + 2 * u := by omega

set_option maxHeartbeats 1000000 in
theorem groot_step (H R g h d d' : Nat) (hR : R = 2 * H) (hR2 : 2 ≤ R) (hd : d ≤ H) (hg : g ≤ 2 * R) (hh : h ≤ 2 * R) (hE : (((H * R : Nat) : Int) - ((g * h : Nat) : Int)).natAbs ≤ d * R) (ht : g * h / R ≤ 3 * H) (hd' : 2 * (d * d) + 12 * R ≤ d' * R) :
    (((H * R : Nat) : Int) - ((g * (3 * H - g * h / R) / R * (h * (3 * H - g * h / R) / R) : Nat) : Int)).natAbs ≤ d' * R := by
  have hR0 : 0 < R := by omega
  have h1 := Nat.div_add_mod (g * h) R
  have h2 := Nat.mod_lt (g * h) hR0
  generalize g * h / R = t at *
  generalize g * h % R = r1 at *
  obtain ⟨f, hf⟩ : ∃ f, f = 3 * H - t := ⟨_, rfl⟩
  rw [← hf]
  have h3 := Nat.div_add_mod (g * f) R
  have h4 := Nat.mod_lt (g * f) hR0
  have h5 := Nat.div_add_mod (h * f) R
  have h6 := Nat.mod_lt (h * f) hR0
  generalize g * f / R = g' at *
  generalize g * f % R = r2 at *
  generalize h * f / R = h' at *
  generalize h * f % R = r3 at *
  obtain ⟨S, hS⟩ : ∃ S, S = H * R := ⟨_, rfl⟩
  rw [← hS] at hE ⊢
  obtain ⟨Dl, hDl⟩ : ∃ Dl : Int, Dl = (S : Int) - g * h := ⟨_, rfl⟩
  have id := groot_ident H R g h t r1 f g' r2 h' r3 S Dl (by omega) (by exact_mod_cast hS) hDl (by exact_mod_cast h1.symm) (by omega) (by exact_mod_cast h3.symm) (by exact_mod_cast h5.symm)
  have bD : Dl.natAbs ≤ d * R := by rw [hDl]; exact_mod_cast hE
  have e2 : R * R = 2 * S := by rw [hS, hR]; grind
  have bS : d * R ≤ S := by rw [hS]; exact Nat.mul_le_mul_right _ hd
  have hfR : f ≤ 2 * R := by omega
  have p1 : (Dl * Dl).natAbs ≤ d * R * (d * R) := natAbs_mul_le bD bD
  have p2 : (Dl * Dl * Dl).natAbs ≤ d * R * (d * R) * S := natAbs_mul_le p1 (Nat.le_trans bD bS)
  have p3 : ((S : Int) * (Dl * Dl)).natAbs ≤ S * (d * R * (d * R)) := natAbs_mul_le (by omega) p1
  have q1 : ((4 * (S : Int) + 2 * Dl) * r1).natAbs ≤ 6 * S * R := natAbs_mul_le (by omega) (by omega)
  have q2 : ((r1 : Int) * r1).natAbs ≤ R * R := natAbs_mul_le (by omega) (by omega)
  have q3 : (((S : Int) - Dl) * ((4 * (S : Int) + 2 * Dl) * r1 + r1 * r1)).natAbs ≤ 2 * S * (6 * S * R + R * R) := natAbs_mul_le (by omega) (sum2 q1 q2)
  have g1 : ((g : Int) * f * r3).natAbs ≤ 2 * R * (2 * R) * R := natAbs_mul_le (natAbs_mul_le (by omega) (by omega)) (by omega)
  have g2 : ((h : Int) * f * r2).natAbs ≤ 2 * R * (2 * R) * R := natAbs_mul_le (natAbs_mul_le (by omega) (by omega)) (by omega)
  have g3 : ((r2 : Int) * r3).natAbs ≤ R * R := natAbs_mul_le (by omega) (by omega)
  have g4 : ((S : Int) * ((g : Int) * f * r3 + h * f * r2 - r2 * r3)).natAbs ≤ S * (2 * (2 * R * (2 * R) * R) + R * R) := natAbs_mul_le (by omega) (sum3 g1 g2 g3)
  obtain ⟨E', hE'⟩ : ∃ E' : Int, E' = (S : Int) - g' * h' := ⟨_, rfl⟩
  rw [← hE'] at id
  have tot : (4 * (S : Int) * S * E').natAbs ≤ 3 * (S * (d * R * (d * R))) + d * R * (d * R) * S + 2 * S * (6 * S * R + R * R) + 2 * (S * (2 * (2 * R * (2 * R) * R) + R * R)) := by
    rw [id]
    have e1 : 3 * (S : Int) * (Dl * Dl) = 3 * ((S : Int) * (Dl * Dl)) := by grind
    have e3 : 2 * (S : Int) * ((g : Int) * f * r3 + h * f * r2 - r2 * r3) = 2 * ((S : Int) * ((g : Int) * f * r3 + h * f * r2 - r2 * r3)) := by grind
    rw [e1, e3]
    exact sum_bound p3 p2 q3 g4
  have goal' : ((S : Int) - ((g' * h' : Nat) : Int)) = E' := by rw [hE']; push_cast; rfl
  rw [goal']
  have na : (4 * (S : Int) * S * E').natAbs = 4 * (S * S) * E'.natAbs := by
    rw [Int.natAbs_mul, show 4 * (S : Int) * S = ((4 * (S * S) : Nat) : Int) by push_cast; grind]; rfl
  rw [na] at tot
  have f1 : 3 * (S * (d * R * (d * R))) + d * R * (d * R) * S = 4 * (S * S) * (2 * (d * d)) := by
    have : d * R * (d * R) = d * d * (R * R) := by grind
    rw [this, e2]; grind
  have f2 : 2 * S * (6 * S * R + R * R) = 4 * (S * S) * (3 * R + 1) := by rw [e2]; grind
  have f3 : 2 * (S * (2 * (2 * R * (2 * R) * R) + R * R)) = 4 * (S * S) * (8 * R + 1) := by
    have : 2 * R * (2 * R) * R = 4 * (R * R) * R := by grind
    rw [this, e2]; grind
  have m : 4 * (S * S) * E'.natAbs ≤ 4 * (S * S) * (d' * R) := by
    refine Nat.le_trans tot ?_
    rw [f1, f2, f3, ← Nat.mul_add, ← Nat.mul_add]
    exact Nat.mul_le_mul_left _ (by omega)
  have hSp : 0 < S := by rw [hS]; exact Nat.mul_pos (by omega) hR0
  exact Nat.le_of_mul_le_mul_left m (by have := Nat.mul_pos hSp hSp; omega)

theorem groot_drift (R A Q n g h f e e' b : Nat) (hR : 0 < R) (hA : A ≤ Q) (hn : n ≤ Q) (hF : (((A * g : Nat) : Int) - ((n * h : Nat) : Int)).natAbs ≤ e * Q) (hf : f ≤ R + b) (he : e * (R + b) + R ≤ e' * R) :
    (((A * (g * f / R) : Nat) : Int) - ((n * (h * f / R) : Nat) : Int)).natAbs ≤ e' * Q := by
  have h3 := Nat.div_add_mod (g * f) R
  have h4 := Nat.mod_lt (g * f) hR
  have h5 := Nat.div_add_mod (h * f) R
  have h6 := Nat.mod_lt (h * f) hR
  generalize g * f / R = g' at *
  generalize g * f % R = r2 at *
  generalize h * f / R = h' at *
  generalize h * f % R = r3 at *
  obtain ⟨F, hFF⟩ : ∃ F : Int, F = (A : Int) * g - n * h := ⟨_, rfl⟩
  have key := groot_ratio R A n g h f g' r2 h' r3 F hFF (by exact_mod_cast h3.symm) (by exact_mod_cast h5.symm)
  have bF : F.natAbs ≤ e * Q := by rw [hFF]; exact_mod_cast hF
  obtain ⟨F', hF'⟩ : ∃ F' : Int, F' = (A : Int) * g' - n * h' := ⟨_, rfl⟩
  have goal' : ((A * g' : Nat) : Int) - ((n * h' : Nat) : Int) = F' := by rw [hF']; push_cast; rfl
  rw [goal']
  rw [← hF'] at key
  have b1 : A * r2 ≤ Q * R := Nat.mul_le_mul hA (Nat.le_of_lt h4)
  have b2 : n * r3 ≤ Q * R := Nat.mul_le_mul hn (Nat.le_of_lt h6)
  have b3 : (F * (f : Int)).natAbs ≤ e * Q * (R + b) := natAbs_mul_le bF (by omega)
  have n1 : F'.natAbs * R ≤ e * Q * (R + b) + Q * R := by
    have : (F' * (R : Int)).natAbs = F'.natAbs * R := by rw [Int.natAbs_mul]; rfl
    rw [← this, key]
    have c1 : ((A * r2 : Nat) : Int) = (A : Int) * (r2 : Int) := by push_cast; rfl
    have c2 : ((n * r3 : Nat) : Int) = (n : Int) * (r3 : Int) := by push_cast; rfl
    omega
  have n2 : F'.natAbs * R ≤ e' * Q * R := by
    have h := Nat.mul_le_mul_left Q he
    have e1 : Q * (e * (R + b) + R) = e * Q * (R + b) + Q * R := by grind
    have e2 : Q * (e' * R) = e' * Q * R := by grind
    omega
  exact Nat.le_of_mul_le_mul_right n2 hR

theorem groot_guess (A L R Q n g h s d e : Nat) (hA : 0 < A) (hL : 0 < L) (h1 : s * s ≤ n) (h2 : n < (s + 1) * (s + 1)) (hg : g ≤ 2 * R) (hE : (((A * (L * L) : Nat) : Int) - ((g * h : Nat) : Int)).natAbs ≤ d * R)
    (hF : (((A * g : Nat) : Int) - ((n * h : Nat) : Int)).natAbs ≤ e * Q) (hx : n * (d * R) + 2 * R * (e * Q) + A * (L * L) < 2 * s * (A * (L * L))) : g / L ≤ s + 1 ∧ s ≤ g / L + 1 := by
  have h3 := Nat.div_add_mod g L
  have h4 := Nat.mod_lt g hL
  generalize g / L = q at *
  generalize g % L = m at *
  obtain ⟨S, hS⟩ : ∃ S, S = A * (L * L) := ⟨_, rfl⟩
  obtain ⟨Dl, hDl⟩ : ∃ Dl : Int, Dl = (S : Int) - g * h := ⟨_, rfl⟩
  obtain ⟨F, hFF⟩ : ∃ F : Int, F = (A : Int) * g - n * h := ⟨_, rfl⟩
  have bD : Dl.natAbs ≤ d * R := by rw [hDl, hS]; exact_mod_cast hE
  have bF : F.natAbs ≤ e * Q := by rw [hFF]; exact_mod_cast hF
  have key : (A : Int) * (g * g) = n * S - n * Dl + g * F := by rw [hDl, hFF]; grind
  have k1 : ((n : Int) * Dl).natAbs ≤ n * (d * R) := natAbs_mul_le (by omega) bD
  have k2 : ((g : Int) * F).natAbs ≤ 2 * R * (e * Q) := natAbs_mul_le (by omega) bF
  have c1 : ((A * (g * g) : Nat) : Int) = (A : Int) * (g * g) := by push_cast; rfl
  have c2 : ((n * S : Nat) : Int) = (n : Int) * S := by push_cast; rfl
  have u1 : A * (g * g) ≤ n * S + (n * (d * R) + 2 * R * (e * Q)) := by omega
  have u2 : n * S ≤ A * (g * g) + (n * (d * R) + 2 * R * (e * Q)) := by omega
  have a1 : q * L ≤ g := by rw [Nat.mul_comm]; omega
  have a2 : g ≤ (q + 1) * L := by rw [Nat.add_mul, Nat.mul_comm q]; omega
  have b1 := Nat.mul_le_mul_left A (sq_le_of_le a1)
  have b2 := Nat.mul_le_mul_left A (sq_le_of_le a2)
  have e1 : A * (q * L * (q * L)) = q * q * S := by rw [hS]; grind
  have e2 : A * ((q + 1) * L * ((q + 1) * L)) = (q + 1) * (q + 1) * S := by rw [hS]; grind
  rw [← hS] at hx
  exact root_near n s q (n * (d * R) + 2 * R * (e * Q)) S (by rw [hS]; exact Nat.mul_pos hA (Nat.mul_pos hL hL)) h1 h2 (by omega) (by omega) hx

end Go.Proofs.YtggchelniblipaaGreatDoor.Rd

namespace Go.Proofs.YtggchelniblipaaGreatDoor.Rd
set_option linter.unusedVariables false
set_option maxRecDepth 100000

def gH : Nat := 2 ^ 159
/-- The pairs of the rounds. -/
def goldS (n : Nat) : Nat → Nat × Nat
  | 0 => (n * rguessAt (n / 2 ^ 249) / 2 ^ 105, rguessAt (n / 2 ^ 249) * 2 ^ 150)
  | k + 1 => ((goldS n k).1 * (3 * gH - (goldS n k).1 * (goldS n k).2 / R) / R, (goldS n k).2 * (3 * gH - (goldS n k).1 * (goldS n k).2 / R) / R)
def gds : Nat → Nat
  | 0 => 2 ^ 154 + 1
  | 1 => 2 ^ 150
  | 2 => 2 ^ 142
  | 3 => 2 ^ 126
  | 4 => 2 ^ 94
  | _ => 2 ^ 30
theorem gds_step : ∀ k, k < 5 → 2 * (gds k * gds k) + 12 * R ≤ gds (k + 1) * R := by decide
theorem gds_le : ∀ k, k < 6 → gds k ≤ 2 ^ 155 := by decide
theorem gds_drift : ∀ k, k < 5 → (2 * k + 1) * (R + gds k) + R ≤ (2 * (k + 1) + 1) * R := by decide
structure GoldI (n k g h : Nat) : Prop where
  hg : g ≤ R + gH + k * 2 ^ 156
  hh : h ≤ R + gH + k * 2 ^ 156
  hE : (((gH * R : Nat) : Int) - ((g * h : Nat) : Int)).natAbs ≤ gds k * R
  hF : (((2 ^ 255 * g : Nat) : Int) - ((n * h : Nat) : Int)).natAbs ≤ (2 * k + 1) * (K * K)
theorem gold_fac (g h d : Nat) (hd : d ≤ 2 ^ 155) (hE : (((gH * R : Nat) : Int) - ((g * h : Nat) : Int)).natAbs ≤ d * R) : g * h / R ≤ 3 * gH ∧ 3 * gH - g * h / R ≤ R + d := by
  have hR := R_pos
  have h2 : R = 2 * gH := by decide
  have h3 : d ≤ gH := Nat.le_trans hd (by decide)
  have e1 : g * h ≤ (gH + d) * R := by rw [Nat.add_mul]; omega
  have e2 : (gH - d) * R ≤ g * h := by rw [Nat.sub_mul]; omega
  have t1 : g * h / R ≤ gH + d := Nat.div_le_of_le_mul (by rw [Nat.mul_comm R]; exact e1)
  have t2 : gH - d ≤ g * h / R := (Nat.le_div_iff_mul_le hR).2 e2
  omega
theorem gold_grow (g f d : Nat) (hg : g ≤ 2 * R) (hd : d ≤ 2 ^ 155) (hf : f ≤ R + d) : g * f / R ≤ g + 2 ^ 156 := by
  apply Nat.div_le_of_le_mul
  have e1 : g * f ≤ g * (R + d) := Nat.mul_le_mul_left _ hf
  have e2 : g * d ≤ 2 * R * 2 ^ 155 := Nat.mul_le_mul hg hd
  have e3 : g * (R + d) = g * R + g * d := Nat.mul_add _ _ _
  have e4 : R * (g + 2 ^ 156) = g * R + R * 2 ^ 156 := by rw [Nat.mul_add, Nat.mul_comm R g]
  have e5 : 2 * R * 2 ^ 155 = R * 2 ^ 156 := by decide
  omega
theorem GoldI.small {n k g h : Nat} (I : GoldI n k g h) (hk : k ≤ 5) : g ≤ 2 * R ∧ h ≤ 2 * R := by
  have h1 := I.hg
  have h2 := I.hh
  have h3 : k * 2 ^ 156 ≤ 5 * 2 ^ 156 := Nat.mul_le_mul_right _ hk
  have h4 : R + gH + 5 * 2 ^ 156 ≤ 2 * R := by decide
  omega
theorem GoldI.next {n k g h : Nat} (hn : n < K * K) (hk : k < 5) (I : GoldI n k g h) : GoldI n (k + 1) (g * (3 * gH - g * h / R) / R) (h * (3 * gH - g * h / R) / R) := by
  obtain ⟨s1, s2⟩ := I.small (by omega)
  have hd := gds_le k (by omega)
  obtain ⟨f1, f2⟩ := gold_fac g h _ hd I.hE
  have a1 := gold_grow g _ _ s1 hd f2
  have a2 := gold_grow h _ _ s2 hd f2
  have b1 := I.hg
  have b2 := I.hh
  have e : (k + 1) * 2 ^ 156 = k * 2 ^ 156 + 2 ^ 156 := by rw [Nat.add_mul, Nat.one_mul]
  exact ⟨by omega, by omega, groot_step gH R g h (gds k) (gds (k + 1)) (by decide) (by decide) (Nat.le_trans hd (by decide)) s1 s2 I.hE f1 (gds_step k hk),
    groot_drift R (2 ^ 255) (K * K) n g h _ (2 * k + 1) (2 * (k + 1) + 1) (gds k) R_pos (by decide) (Nat.le_of_lt hn) I.hF f2 (gds_drift k hk)⟩
theorem gold_seed_g (n g : Nat) (hn : n < K * K) (h : n * (g * g) ≤ 2 ^ 249 * 34603008) : n * g / 2 ^ 105 ≤ R + gH := by
  apply Nat.div_le_of_le_mul
  apply Nat.not_lt.1
  intro h1
  have h2 := sq_le_of_le (Nat.le_of_lt h1)
  have e1 : n * g * (n * g) = n * (n * (g * g)) := by grind
  have h3 := Nat.mul_le_mul (Nat.le_of_lt hn) h
  have h4 : K * K * (2 ^ 249 * 34603008) < 2 ^ 105 * (R + gH) * (2 ^ 105 * (R + gH)) := by decide
  omega
theorem gold_aux (a b y1 y2 y3 P Rr : Nat) (e : y1 + y2 = y3 * P) (h2 : y2 ≤ Rr) (sd : ((a : Int) - (y3 : Int)).natAbs ≤ b) : (((a * P : Nat) : Int) - (y1 : Int)).natAbs ≤ b * P + Rr := by
  have u : y3 ≤ a + b := by omega
  have l : a ≤ y3 + b := by omega
  have u2 := Nat.mul_le_mul_right P u
  have l2 := Nat.mul_le_mul_right P l
  rw [Nat.add_mul] at u2 l2
  omega
theorem gold_zero (n : Nat) (h1 : 2 ^ 254 ≤ n) (h2 : n < K * K) : GoldI n 0 (goldS n 0).1 (goldS n 0).2 := by
  have h3 := Nat.div_add_mod n (2 ^ 249)
  have h4 := Nat.mod_lt n (show 0 < 2 ^ 249 by decide)
  have i1 : 32 ≤ n / 2 ^ 249 := by omega
  have i2 : n / 2 ^ 249 < 128 := by
    have : K * K = 2 ^ 249 * 128 := by decide
    rw [this] at h2
    exact Nat.div_lt_of_lt_mul h2
  simp only [goldS]
  generalize n / 2 ^ 249 = i at *
  generalize n % 2 ^ 249 = r at *
  obtain ⟨t1, t2, t3⟩ := rguess_table i i2 i1
  generalize rguessAt i = g at *
  have sd := seed_aux (2 ^ 249) 1 n g i r h3 h4 t1 t2
  rw [show 2 ^ 249 * 33554432 * (1 * 1) = 2 ^ 249 * 33554432 by decide, show 2 ^ 249 * 1048576 * (1 * 1) = 2 ^ 249 * 1048576 by decide, show g * 1 * (g * 1) = g * g by simp] at sd
  have q1 := Nat.div_add_mod (n * g) (2 ^ 105)
  have q2 := Nat.mod_lt (n * g) (show 0 < 2 ^ 105 by decide)
  have u : n * (g * g) ≤ 2 ^ 249 * 34603008 := by omega
  have hgr := gold_seed_g n g h2 u
  have e0 : n * g * g = n * (g * g) := Nat.mul_assoc _ _ _
  generalize n * g / 2 ^ 105 = x at *
  generalize n * g % 2 ^ 105 = m at *
  refine ⟨by omega, ?_, ?_, ?_⟩
  · have : 1016 * 2 ^ 150 ≤ R + gH := by decide
    have h' : g * 2 ^ 150 ≤ 1016 * 2 ^ 150 := Nat.mul_le_mul_right _ t3
    rw [Nat.zero_mul, Nat.add_zero]
    exact Nat.le_trans h' this
  · have eX : x * (g * 2 ^ 150) + m * g * 2 ^ 45 = n * (g * g) * 2 ^ 45 := by
      have p : (2 : Nat) ^ 150 = 2 ^ 105 * 2 ^ 45 := by decide
      rw [p]
      generalize (2 : Nat) ^ 105 = a at *
      generalize (2 : Nat) ^ 45 = b at *
      rw [← e0, ← q1]; grind
    have mg : m * g ≤ 2 ^ 105 * 1016 := Nat.mul_le_mul (Nat.le_of_lt q2) t3
    have p1 : gH * R = 2 ^ 249 * 33554432 * 2 ^ 45 := by decide
    have p2 : gds 0 * R = 2 ^ 249 * 1048576 * 2 ^ 45 + R := by decide
    have p3 : 2 ^ 105 * 1016 * 2 ^ 45 ≤ R := by decide
    rw [p1, p2]
    have mg2 := Nat.mul_le_mul_right (2 ^ 45) mg
    exact gold_aux _ _ _ _ _ _ _ eX (Nat.le_trans mg2 p3) sd
  · have eX : 2 ^ 255 * x + 2 ^ 150 * m = n * (g * 2 ^ 150) := by
      have p : (2 : Nat) ^ 255 = 2 ^ 105 * 2 ^ 150 := by decide
      rw [p]
      generalize (2 : Nat) ^ 105 = a at *
      generalize (2 : Nat) ^ 150 = b at *
      have : n * (g * b) = n * g * b := (Nat.mul_assoc _ _ _).symm
      rw [this, ← q1]; grind
    have p3 : 2 ^ 150 * 2 ^ 105 ≤ K * K := by decide
    have mg := Nat.mul_le_mul_left (2 ^ 150) (Nat.le_of_lt q2)
    generalize n * (g * 2 ^ 150) = y1 at *
    omega
theorem gold_near (n : Nat) (h1 : 2 ^ 254 ≤ n) (h2 : n < K * K) (k : Nat) (hk : k ≤ 5) : GoldI n k (goldS n k).1 (goldS n k).2 := by
  induction k with
  | zero => exact gold_zero n h1 h2
  | succ k ih => exact (ih (by omega)).next h2 (by omega)
theorem goldroot_last (n s : Nat) (h1 : 2 ^ 254 ≤ n) (h2 : n < K * K) (hs1 : s * s ≤ n) (hs2 : n < (s + 1) * (s + 1)) : (goldS n 5).1 / 2 ^ 32 ≤ s + 1 ∧ s ≤ (goldS n 5).1 / 2 ^ 32 + 1 := by
  have I := gold_near n h1 h2 5 (Nat.le_refl _)
  have hs : 2 ^ 127 ≤ s := by
    apply Nat.not_lt.1
    intro h
    have h3 := sq_le_of_le (show s + 1 ≤ 2 ^ 127 by omega)
    have h4 : 2 ^ 127 * 2 ^ 127 ≤ 2 ^ 254 := by decide
    omega
  refine groot_guess (2 ^ 255) (2 ^ 32) R (K * K) n _ _ s (2 ^ 30) 11 (by decide) (by decide) hs1 hs2 (I.small (by omega)).1 ?_ I.hF ?_
  · have : (2 : Nat) ^ 255 * (2 ^ 32 * 2 ^ 32) = gH * R := by decide
    rw [this]; exact I.hE
  · have a1 := Nat.mul_le_mul_right (2 ^ 30 * R) (Nat.le_of_lt h2)
    have a2 := Nat.mul_le_mul_right (2 ^ 255 * (2 ^ 32 * 2 ^ 32)) (Nat.mul_le_mul_left 2 hs)
    have a3 : K * K * (2 ^ 30 * R) + 2 * R * (11 * (K * K)) + 2 ^ 255 * (2 ^ 32 * 2 ^ 32) < 2 * 2 ^ 127 * (2 ^ 255 * (2 ^ 32 * 2 ^ 32)) := by decide
    exact Nat.lt_of_lt_of_le (Nat.lt_of_le_of_lt (Nat.add_le_add_right (Nat.add_le_add_right a1 _) _) a3) a2

end Go.Proofs.YtggchelniblipaaGreatDoor.Rd

namespace Go.Proofs.YtggchelniblipaaGreatDoor.Rd
open Go Go.RowKit
set_option linter.unusedVariables false
set_option linter.unusedSimpArgs false
set_option maxRecDepth 100000

section
variable {P : Program} {ops : Array Oper} {rest : List Oper} {Q : Exit → Act → World → Prop} {a : Act} {w w0 : World} {S : List Nat} {L L' : List (Nat × Obj)}
theorem run_execOp_first {o : Oper} {c : Call} (ho : o.op = .call c) {x : Operand} (hc : c.callee = .value x) {f : FuncId} {fi cap : Array Value} (hx : a.eval x = .func (.func f) fi cap) (w : World) :
    (execOp a.eval o).run P w = (callFunc f (fi ++ c.args.map a.eval ++ cap)).run P w := by
  unfold execOp
  simp [ho, resolve, hc, hx, Deferred.ofValue, Sem.run_bind, invoke]
theorem run_execOp_invoke {o : Oper} {c : Call} (ho : o.op = .call c) {x : Operand} {name : String} (hc : c.callee = .invoke x name) (w : World) :
    (execOp a.eval o).run P w = (callMethod (a.eval x) name (c.args.map a.eval)).run P w := by
  unfold execOp
  simp [ho, resolve, hc, Sem.run_bind, invoke]
  have h0 : (#[a.eval x] ++ Array.map a.eval c.args)[0]? = some (a.eval x) := by rw [Array.getElem?_append_left (by simp)]; rfl
  rw [h0]
  show Sem.run P (callMethod _ _ ((Array.map a.eval c.args).extract 0 _)) w = _
  rw [show c.args.size = (Array.map a.eval c.args).size by simp, Array.extract_size]
theorem args_first {xs : Array Operand} {fi cap : Array Value} {args : List Value} (h : fi.toList ++ xs.toList.map a.eval ++ cap.toList = args) : fi ++ xs.map a.eval ++ cap = args.toArray := by
  apply Array.toList_inj.1
  simp [← h]
theorem args_in {xs : Array Operand} {args : List Value} (h : xs.toList.map a.eval = args) : xs.map a.eval = args.toArray := by
  apply Array.toList_inj.1
  simp [h]
/-- A call of a method value. -/
theorem kfV {o : Oper} {c : Call} {x : Operand} {f : FuncId} {fi cap : Array Value} {args : List Value} {v : Value} (hf : GoF P f) (hst : St w0 S L w) (hc : Gives P f args.toArray v)
    (ho : o.op = .call c) (hcal : c.callee = .value x) (hx : a.eval x = .func (.func f) fi cap) (hargs : fi.toList ++ c.args.toList.map a.eval ++ cap.toList = args)
    (h : ∀ w', St w0 S L w' → wpList P ops Q rest (a.put o.dst v) w') (hg : o.guard = none := by rfl) : wpList P ops Q (o :: rest) a w := by
  refine wpList_plain hg fun K hK => ?_
  unfold Oper.wp
  rw [run_execOp_first ho hcal hx, args_first hargs, run_callFunc_go hf, Oper.upon_enter]
  refine (hc w).mono fun e w'' hh => ?_
  obtain ⟨rfl, hk⟩ := hh
  exact hK _ _ (h _ (hst.keep hk))
/-- A call through an interface that writes the blocks Ls. -/
theorem kTI {o : Oper} {c : Call} {x : Operand} {f : FuncId} {rv : Value} {name : String} {args args' : List Value} {v : Value} {Ls Ls' : List (Nat × Obj)} (hst : St w0 S L w) (hc : ∀ w, St w0 S L w → GivesT P f args'.toArray v Ls Ls' w)
    (hm : ∀ w, (callMethod rv name args.toArray).run P w = .ok (.enter f args'.toArray) w) (ho : o.op = .call c) (hcal : c.callee = .invoke x name) (hx : a.eval x = rv) (hargs : c.args.toList.map a.eval = args)
    (h : ∀ w', St w0 S L' w' → wpList P ops Q rest (a.put o.dst v) w')
    (hsw : Swap Ls Ls' L L' := by repeat (first | exact Swap.nil _ | exact At.head _ | apply At.tail | apply Swap.cons))
    (hb : Mine w0.heap.size S Ls := by repeat (first | exact Mine.nil | refine Mine.cons (by first | exact Or.inl (by assumption) | (refine Or.inr ?_; simp)) ?_)) (hg : o.guard = none := by rfl) : wpList P ops Q (o :: rest) a w := by
  refine wpList_plain hg fun K hK => ?_
  unfold Oper.wp
  rw [run_execOp_invoke ho hcal, hx, args_in hargs, hm, Oper.upon_enter]
  refine (hc w hst).mono fun e w'' hh => ?_
  obtain ⟨rfl, hk, hown⟩ := hh
  exact hK _ _ (h w'' (hst.puts hsw hb.all hk hown))
end

def gPair (p : Nat × Nat) : Array Value := wc 8 p.1 ++ wc 8 p.2
def gNext (p : Nat × Nat) : Nat × Nat := (p.1 * (3 * gH - p.1 * p.2 / R) / R, p.2 * (3 * gH - p.1 * p.2 / R) / R)
theorem two_M (x y : Nat) (h1 : x ≤ 2 * R) (h2 : y ≤ 2 * R) : x * y < M :=
  Nat.lt_of_le_of_lt (Nat.mul_le_mul (Nat.le_trans h1 (show 2 * R ≤ 2 ^ 161 by decide)) (Nat.le_trans h2 (show 2 * R ≤ 2 ^ 161 by decide))) (pow_sq_M 161 161 (by omega))

set_option maxHeartbeats 8000000 in
theorem gold_next (g h : Nat) (h1 : g ≤ 2 * R) (h2 : h ≤ 2 * R) (h3 : g * h / R ≤ 3 * gH) : Gives Tryz.prog 203 #[.agg (wc 8 g ++ wc 8 h)] (.agg (gPair (gNext (g, h)))) := by
  intro w0
  have hst := St.start [] w0
  have hR3 : 3 * gH < M := small_M (by decide)
  have hR2 : 2 * R < M := small_M (by decide)
  have hRg : R + gH = 3 * gH := by decide
  have hgR : 3 * gH ≤ 2 * R := by decide
  have p1 := wide_Power 160
  rw [show pow2 160 = R by decide] at p1
  have p2 := wide_Power 159
  rw [show pow2 159 = gH by decide] at p2
  have hs := sum2_of R gH (by omega) (by omega) (by omega)
  rw [hRg] at hs
  have t1 := fix_Times g h 160 (by omega) (by omega) (by omega) (Nat.lt_of_le_of_lt (Nat.div_le_self _ _) (two_M g h h1 h2))
  rw [show (2 : Nat) ^ 160 = R from rfl] at t1
  show Calls _ _ _ _ (fun e w' => e = .returned (.agg (wc 8 (g * (3 * gH - g * h / R) / R) ++ wc 8 (h * (3 * gH - g * h / R) / R))) ∧ Keeps [] w0 w')
  generalize g * h / R = t at *
  have hsub := wide_Sub (3 * gH) t hR3 (by omega)
  rw [show (3 * gH + M - t) % M = 3 * gH - t by rw [show 3 * gH + M - t = 3 * gH - t + M by omega, Nat.add_mod_right, Nat.mod_eq_of_lt (by omega)]] at hsub
  have hf2 : 3 * gH - t ≤ 2 * R := by omega
  have t2 := fix_Times g (3 * gH - t) 160 (by omega) (by omega) (by omega) (Nat.lt_of_le_of_lt (Nat.div_le_self _ _) (two_M g _ h1 hf2))
  have t3 := fix_Times h (3 * gH - t) 160 (by omega) (by omega) (by omega) (Nat.lt_of_le_of_lt (Nat.div_le_self _ _) (two_M h _ h2 hf2))
  rw [show (2 : Nat) ^ 160 = R from rfl] at t2 t3
  clear h1 h2 h3 hR3 hR2 hRg hgR hf2
  generalize g * (3 * gH - t) / R = y1 at *
  generalize h * (3 * gH - t) / R = y2 at *
  generalize 3 * gH - t = f at *
  generalize 3 * gH = x1 at *
  generalize gH = x2 at *
  generalize R = x3 at *
  have k1 : (wc 8 g ++ wc 8 h).size = 16 := by simp
  have k2 : (wc 8 y1 ++ wc 8 y2).size = 16 := by simp
  have k3 := app_one y1 y2
  go_enter Tryz.func203, Tryz.ntmps203
  go_wp2_with ((first | (refine kf gf97 hst (p1) rfl rfl rfl rfl ?_; clear hst; intro w hst) | (refine kf gf97 hst (p2) rfl rfl rfl rfl ?_; clear hst; intro w hst) | (refine kg gf87 hst (fun w hst => hs _ w (hst.own _ _ (by simp))) rfl rfl rfl rfl ?_; clear hst; intro w hst) | (refine kb 1 hst rfl rfl ?_; clear hst; intro b1 w hb1 hst) | (refine ka 2 hst tz241 rfl rfl ?_; clear hst; intro b2 w hb2 hst) | (refine kS 8 hst ts165_ (tw24_2 _ _) rfl rfl ?_; clear hst; intro b8 w hb8 hst) | (refine ka 3 hst tz24 rfl rfl ?_; clear hst; intro b3 w hb3 hst) | (refine kt hst ta24 rfl rfl ?_; clear hst; intro w hst) | (refine ktm hst ta24 rfl rfl ?_; clear hst; intro w hst) | (refine kl hst ta24 rfl ?_) | (refine klm hst ta24 rfl ?_) | (refine ka 4 hst tz24 rfl rfl ?_; clear hst; intro b4 w hb4 hst) | (refine kB (tb241_01 _ _) rfl ?_) | (refine kt hst ta241 rfl rfl ?_; clear hst; intro w hst) | (refine ktm hst ta241 rfl rfl ?_; clear hst; intro w hst)); try simp only [pz, pn, sz, sc])
  refine wp_region_T 11  hst (by kernel_rfl) ?_; clear hst; intro w hst; (try dsimp only [List.length_cons, List.length_nil]); (try simp only [List.length_cons, List.length_nil, Nat.reduceAdd, Array.replicate_succ, Array.replicate_zero, List.push_toArray, List.nil_append, List.cons_append])
  refine r0 1 ?_; simp only [pz, pn, sz, sc]
  refine r0 3 ?_; simp only [pz, pn, sz, sc]
  refine rl 0 rfl ?_ (by first | exact ylA ta24 | exact ylM ta24); simp only [pz, pn, sz, sc]
  refine rl 2 rfl ?_ (by first | exact ylA ta24 | exact ylM ta24); simp only [pz, pn, sz, sc]
  refine rl 4 rfl ?_ (by first | exact ylA ta24 | exact ylM ta24); simp only [pz, pn, sz, sc]
  refine r2 5 10 ?_ ?_
  (first | (refine kf gf167 hst (t1) rfl rfl rfl rfl ?_; clear hst; intro w hst) | (refine kf gf95 hst (hsub) rfl rfl rfl rfl ?_; clear hst; intro w hst) | (refine kp ?_)); (try simp only [pz, pn, sz, sc]); refine re ?_
  refine r2 6 10 ?_ ?_
  (first | (refine kf gf167 hst (t1) rfl rfl rfl rfl ?_; clear hst; intro w hst) | (refine kf gf95 hst (hsub) rfl rfl rfl rfl ?_; clear hst; intro w hst) | (refine kp ?_)); (try simp only [pz, pn, sz, sc]); refine re ?_
  refine r0 7 ?_; simp only [pz, pn, sz, sc]
  refine r0 8 ?_; simp only [pz, pn, sz, sc]
  refine r0 9 ?_; simp only [pz, pn, sz, sc]
  refine r1 10 ?_; (refine ka 4 hst tz24 rfl rfl ?_; clear hst; intro b4 w hb4 hst); (try simp only [pz, pn, sz, sc]); refine re ?_
  refine r1 11 ?_; (first | (refine kt hst ta24 rfl rfl ?_; clear hst; intro w hst) | (refine ktm hst ta24 rfl rfl ?_; clear hst; intro w hst)); (try simp only [pz, pn, sz, sc]); refine re ?_
  refine r0 12 ?_; simp only [pz, pn, sz, sc]
  refine rd_ ?_
  rotate_left 1
  (refine ka 4 hst tz24 rfl rfl ?_; clear hst; intro b4 w hb4 hst); (try simp only [pz, pn, sz, sc]); refine re ?_
  refine r1 6 ?_; (first | (refine kf gf167 hst (t1) rfl rfl rfl rfl ?_; clear hst; intro w hst) | (refine kf gf95 hst (hsub) rfl rfl rfl rfl ?_; clear hst; intro w hst) | (refine kp ?_)); (try simp only [pz, pn, sz, sc]); refine re ?_
  refine r0 7 ?_; simp only [pz, pn, sz, sc]
  refine r0 8 ?_; simp only [pz, pn, sz, sc]
  refine r0 9 ?_; simp only [pz, pn, sz, sc]
  refine r1 11 ?_; (first | (refine kt hst ta24 rfl rfl ?_; clear hst; intro w hst) | (refine ktm hst ta24 rfl rfl ?_; clear hst; intro w hst)); (try simp only [pz, pn, sz, sc]); refine re ?_
  refine r0 12 ?_; simp only [pz, pn, sz, sc]
  refine rd_ ?_
  rotate_right 1
  rotate_left 2
  (refine ka 4 hst tz24 rfl rfl ?_; clear hst; intro b4 w hb4 hst); (try simp only [pz, pn, sz, sc]); refine re ?_
  refine r1 5 ?_; (first | (refine kf gf167 hst (t1) rfl rfl rfl rfl ?_; clear hst; intro w hst) | (refine kf gf95 hst (hsub) rfl rfl rfl rfl ?_; clear hst; intro w hst) | (refine kp ?_)); (try simp only [pz, pn, sz, sc]); refine re ?_
  refine r1 6 ?_; (first | (refine kf gf167 hst (t1) rfl rfl rfl rfl ?_; clear hst; intro w hst) | (refine kf gf95 hst (hsub) rfl rfl rfl rfl ?_; clear hst; intro w hst) | (refine kp ?_)); (try simp only [pz, pn, sz, sc]); refine re ?_
  refine r0 7 ?_; simp only [pz, pn, sz, sc]
  refine r0 8 ?_; simp only [pz, pn, sz, sc]
  refine r0 9 ?_; simp only [pz, pn, sz, sc]
  refine r1 11 ?_; (first | (refine kt hst ta24 rfl rfl ?_; clear hst; intro w hst) | (refine ktm hst ta24 rfl rfl ?_; clear hst; intro w hst)); (try simp only [pz, pn, sz, sc]); refine re ?_
  refine r0 12 ?_; simp only [pz, pn, sz, sc]
  refine rd_ ?_
  rotate_right 2
  all_goals
    go_wp2_with ((first | (refine kb 1 hst rfl rfl ?_; clear hst; intro b1 w hb1 hst) | (refine ka 2 hst tz241 rfl rfl ?_; clear hst; intro b2 w hb2 hst) | (refine kS 8 hst ts165_ (tw24_2 _ _) rfl rfl ?_; clear hst; intro b8 w hb8 hst) | (refine ka 3 hst tz24 rfl rfl ?_; clear hst; intro b3 w hb3 hst) | (refine kt hst ta24 rfl rfl ?_; clear hst; intro w hst) | (refine ktm hst ta24 rfl rfl ?_; clear hst; intro w hst) | (refine kl hst ta24 rfl ?_) | (refine klm hst ta24 rfl ?_) | (refine ka 4 hst tz24 rfl rfl ?_; clear hst; intro b4 w hb4 hst) | (refine kB (tb241_01 _ _) rfl ?_) | (refine kt hst ta241 rfl rfl ?_; clear hst; intro w hst) | (refine ktm hst ta241 rfl rfl ?_; clear hst; intro w hst)); try simp only [pz, pn, sz, sc])
    refine wp_region_T 9  hst (by kernel_rfl) ?_; clear hst; intro w hst; (try dsimp only [List.length_cons, List.length_nil]); (try simp only [List.length_cons, List.length_nil, Nat.reduceAdd, Array.replicate_succ, Array.replicate_zero, List.push_toArray, List.nil_append, List.cons_append])
    refine r0 0 ?_; simp only [pz, pn, sz, sc]
    refine r0 4 ?_; simp only [pz, pn, sz, sc]
    refine rl 1 rfl ?_ (by first | exact ylA ta24 | exact ylM ta24); simp only [pz, pn, sz, sc]
    refine rl 2 rfl ?_ (by first | exact ylA ta24 | exact ylM ta24); simp only [pz, pn, sz, sc]
    refine rl 5 rfl ?_ (by first | exact ylA ta24 | exact ylM ta24); simp only [pz, pn, sz, sc]
    refine rl 6 rfl ?_ (by first | exact ylA ta24 | exact ylM ta24); simp only [pz, pn, sz, sc]
    refine r1 3 ?_; (first | (refine kf gf167 hst (t2) rfl rfl rfl rfl ?_; clear hst; intro w hst) | (refine kf gf167 hst (t3) rfl rfl rfl rfl ?_; clear hst; intro w hst) | (refine kp ?_)); (try simp only [pz, pn, sz, sc]); refine re ?_
    refine r1 7 ?_; (first | (refine kf gf167 hst (t2) rfl rfl rfl rfl ?_; clear hst; intro w hst) | (refine kf gf167 hst (t3) rfl rfl rfl rfl ?_; clear hst; intro w hst) | (refine kp ?_)); (try simp only [pz, pn, sz, sc]); refine re ?_
    refine r0 8 ?_ (hy := yB (tb241_01 _ _)); simp only [pz, pn, sz, sc]
    refine r1 9 ?_; (first | (refine kt hst ta241 rfl rfl ?_; clear hst; intro w hst) | (refine ktm hst ta241 rfl rfl ?_; clear hst; intro w hst)); (try simp only [pz, pn, sz, sc]); refine re ?_
    refine rd_ ?_
    go_wp2_with ((first | (refine kb 1 hst rfl rfl ?_; clear hst; intro b1 w hb1 hst) | (refine ka 2 hst tz241 rfl rfl ?_; clear hst; intro b2 w hb2 hst) | (refine kS 8 hst ts165_ (tw24_2 _ _) rfl rfl ?_; clear hst; intro b8 w hb8 hst) | (refine ka 3 hst tz24 rfl rfl ?_; clear hst; intro b3 w hb3 hst) | (refine kt hst ta24 rfl rfl ?_; clear hst; intro w hst) | (refine ktm hst ta24 rfl rfl ?_; clear hst; intro w hst) | (refine kl hst ta24 rfl ?_) | (refine klm hst ta24 rfl ?_) | (refine ka 4 hst tz24 rfl rfl ?_; clear hst; intro b4 w hb4 hst) | (refine kB (tb241_01 _ _) rfl ?_) | (refine kt hst ta241 rfl rfl ?_; clear hst; intro w hst) | (refine ktm hst ta241 rfl rfl ?_; clear hst; intro w hst)); try simp only [pz, pn, sz, sc])
    refine bp_c rfl rfl (la hst ta241) ⟨?_, hst.keeps⟩
    rfl

end Go.Proofs.YtggchelniblipaaGreatDoor.Rd
