/- What atomic.Int64's Add, Load and the rom answer. -/
import Derived.Test.YtefpoconpeggpaaGreatDoorL16
import Derived.Test.YtefpoconpeggpaaGreatDoorL12
namespace Go.Proofs.YtefpoconpeggpaaGreatDoor.Rd
set_option linter.unusedVariables false
set_option maxRecDepth 100000

theorem natAbs_mul_le {a b : Int} {x y : Nat} (h1 : a.natAbs ≤ x) (h2 : b.natAbs ≤ y) : (a * b).natAbs ≤ x * y := by rw [Int.natAbs_mul]; exact Nat.mul_le_mul h1 h2

/-- The identity behind a round. -/
theorem nroot_ident (R Q n y sq r1 t r2 f q r3 : Int) (i1 : y * y = R * sq + r1) (i2 : n * sq = Q * t + r2) (i3 : f + t = 3 * R) (i4 : y * f = 2 * R * q + r3) (W T Dl xi : Int) (hW : W = R * Q) (hT : T = R * W)
    (hD : Dl = T - n * (y * y)) (hx : xi = y * (R * r2 + n * r1) - W * r3) : 4 * T * T * (T - n * (q * q)) = 3 * T * (Dl * Dl) + Dl * Dl * Dl - 2 * (n * y) * ((2 * T + Dl) * xi) - n * (xi * xi) := by
  have a : W * t = n * (y * y) - (R * r2 + n * r1) := by
    have h : n * (R * sq + r1) = R * (n * sq) + n * r1 := by grind
    rw [hW, i1, h, i2, Int.mul_add, ← Int.mul_assoc]
    omega
  have b : W * f = 2 * T + Dl + (R * r2 + n * r1) := by
    have : W * f + W * t = 3 * T := by rw [← Int.mul_add, i3, hT]; grind
    omega
  have c : 2 * T * q = y * (2 * T + Dl) + xi := by
    have : 2 * T * q = W * (y * f) - W * r3 := by rw [i4, hT]; grind
    rw [this, show W * (y * f) = y * (W * f) by grind, b, hx]; grind
  have d : 4 * T * T * (n * (q * q)) = n * ((2 * T * q) * (2 * T * q)) := by grind
  rw [Int.mul_sub, d, c]
  have e : n * (y * y) = T - Dl := by omega
  have e2 : n * ((y * (2 * T + Dl) + xi) * (y * (2 * T + Dl) + xi)) = n * (y * y) * ((2 * T + Dl) * (2 * T + Dl)) + 2 * (n * y) * ((2 * T + Dl) * xi) + n * (xi * xi) := by grind
  rw [e2, e]
  grind

theorem nroot_step (R Q n y d d' : Nat) (hR9 : 9 ≤ R) (hQ : 0 < Q) (hn : n ≤ Q) (hy : y ≤ 3 * R) (hd : d ≤ R) (hE : (((R * (R * Q) : Nat) : Int) - ((n * (y * y) : Nat) : Int)).natAbs ≤ d * (R * Q)) (ht : n * (y * y / R) / Q ≤ 3 * R)
    (hd' : d * d + 28 * R ≤ d' * R) : (((R * (R * Q) : Nat) : Int) - ((n * (y * (3 * R - n * (y * y / R) / Q) / (2 * R) * (y * (3 * R - n * (y * y / R) / Q) / (2 * R))) : Nat) : Int)).natAbs ≤ d' * (R * Q) := by
  have hR : 0 < R := by omega
  have h1 := Nat.div_add_mod (y * y) R
  have h2 := Nat.mod_lt (y * y) hR
  generalize y * y / R = sq at *
  generalize y * y % R = r1 at *
  have h3 := Nat.div_add_mod (n * sq) Q
  have h4 := Nat.mod_lt (n * sq) hQ
  generalize n * sq / Q = t at *
  generalize n * sq % Q = r2 at *
  obtain ⟨f, hf⟩ : ∃ f, f = 3 * R - t := ⟨_, rfl⟩
  rw [← hf]
  have h5 := Nat.div_add_mod (y * f) (2 * R)
  have h6 := Nat.mod_lt (y * f) (show 0 < 2 * R by omega)
  generalize y * f / (2 * R) = q at *
  generalize y * f % (2 * R) = r3 at *
  obtain ⟨W, hW⟩ : ∃ W, W = R * Q := ⟨_, rfl⟩
  obtain ⟨T, hT⟩ : ∃ T, T = R * W := ⟨_, rfl⟩
  rw [← hW] at hE ⊢
  rw [← hT] at hE ⊢
  have id := nroot_ident R Q n y sq r1 t r2 f q r3 (by exact_mod_cast h1.symm) (by exact_mod_cast h3.symm) (by omega) (by exact_mod_cast h5.symm) W T ((T : Int) - n * (y * y)) ((y : Int) * (R * r2 + n * r1) - W * r3) (by exact_mod_cast hW) (by exact_mod_cast hT) rfl rfl
  obtain ⟨Dl, hDl⟩ : ∃ Dl : Int, Dl = (T : Int) - n * (y * y) := ⟨_, rfl⟩
  obtain ⟨xi, hxi⟩ : ∃ xi : Int, xi = (y : Int) * (R * r2 + n * r1) - W * r3 := ⟨_, rfl⟩
  rw [← hDl, ← hxi] at id
  have bD : Dl.natAbs ≤ d * W := by rw [hDl]; exact_mod_cast hE
  have hWp : 0 < W := by rw [hW]; exact Nat.mul_pos hR hQ
  have bx : xi.natAbs ≤ 6 * T := by
    have u1 : R * r2 + n * r1 ≤ 2 * W := by
      have a1 : R * r2 ≤ R * Q := Nat.mul_le_mul_left _ (Nat.le_of_lt h4)
      have a2 : n * r1 ≤ Q * R := Nat.mul_le_mul hn (Nat.le_of_lt h2)
      rw [Nat.mul_comm Q R] at a2
      omega
    have u2 : y * (R * r2 + n * r1) ≤ 3 * R * (2 * W) := Nat.mul_le_mul hy u1
    have u3 : W * r3 ≤ W * (2 * R) := Nat.mul_le_mul_left _ (Nat.le_of_lt h6)
    have e1 : 3 * R * (2 * W) = 6 * T := by rw [hT]; grind
    have e2 : W * (2 * R) = 2 * T := by rw [hT]; grind
    have c1 : ((y * (R * r2 + n * r1) : Nat) : Int) = (y : Int) * (R * r2 + n * r1) := by push_cast; rfl
    have c2 : ((W * r3 : Nat) : Int) = (W : Int) * r3 := by push_cast; rfl
    omega
  have bny : n * y ≤ 3 * W := by
    have := Nat.mul_le_mul hn hy
    rw [show Q * (3 * R) = 3 * W by rw [hW]; grind] at this
    exact this
  have bT : d * W ≤ T := by rw [hT]; exact Nat.mul_le_mul_right _ hd
  have p1 : (Dl * Dl).natAbs ≤ d * W * (d * W) := natAbs_mul_le bD bD
  have p2 : (Dl * Dl * Dl).natAbs ≤ d * W * (d * W) * T := natAbs_mul_le p1 (Nat.le_trans bD bT)
  have p3 : ((2 * (T : Int) + Dl) * xi).natAbs ≤ 3 * T * (6 * T) := natAbs_mul_le (by omega) bx
  have p4 : (((n : Int) * y) * ((2 * (T : Int) + Dl) * xi)).natAbs ≤ 3 * W * (3 * T * (6 * T)) := natAbs_mul_le (by rw [show ((n : Int) * y) = ((n * y : Nat) : Int) by push_cast; rfl]; exact bny) p3
  have p5 : ((n : Int) * (xi * xi)).natAbs ≤ Q * (6 * T * (6 * T)) := natAbs_mul_le (by omega) (natAbs_mul_le bx bx)
  have p6 : ((T : Int) * (Dl * Dl)).natAbs ≤ T * (d * W * (d * W)) := natAbs_mul_le (by omega) p1
  have tot : (4 * (T : Int) * T * ((T : Int) - n * (q * q))).natAbs ≤ 3 * (T * (d * W * (d * W))) + d * W * (d * W) * T + 2 * (3 * W * (3 * T * (6 * T))) + Q * (6 * T * (6 * T)) := by
    rw [id]
    have e1 : 3 * (T : Int) * (Dl * Dl) = 3 * ((T : Int) * (Dl * Dl)) := by grind
    have e2 : 2 * ((n : Int) * y) * ((2 * (T : Int) + Dl) * xi) = 2 * (((n : Int) * y) * ((2 * (T : Int) + Dl) * xi)) := by grind
    rw [e1, e2]
    omega
  obtain ⟨E', hE'⟩ : ∃ E' : Int, E' = (T : Int) - n * (q * q) := ⟨_, rfl⟩
  rw [← hE'] at tot
  have goal' : ((T : Int) - ((n * (q * q) : Nat) : Int)) = E' := by rw [hE']; push_cast; rfl
  rw [goal']
  have na : (4 * (T : Int) * T * E').natAbs = 4 * (T * T) * E'.natAbs := by
    rw [Int.natAbs_mul, show 4 * (T : Int) * T = ((4 * (T * T) : Nat) : Int) by push_cast; grind]; rfl
  rw [na] at tot
  have m := Nat.mul_le_mul_right R tot
  have f1 : 3 * (T * (d * W * (d * W))) * R + d * W * (d * W) * T * R = 4 * (T * T) * (d * d * W) := by
    have : T * T = T * (R * W) := by rw [← hT]
    rw [this]; grind
  have f2 : 2 * (3 * W * (3 * T * (6 * T))) * R = 4 * (T * T) * (27 * R * W) := by grind
  have f3 : Q * (6 * T * (6 * T)) * R = 4 * (T * T) * (9 * W) := by rw [hW]; grind
  have m2 : 4 * (T * T) * E'.natAbs * R ≤ 4 * (T * T) * (d * d * W) + 4 * (T * T) * (27 * R * W) + 4 * (T * T) * (9 * W) := by
    rw [← f1, ← f2, ← f3]
    rw [Nat.add_mul, Nat.add_mul, Nat.add_mul] at m
    exact m
  have m3 : 4 * (T * T) * (E'.natAbs * R) ≤ 4 * (T * T) * (d' * W * R) := by
    rw [← Nat.mul_assoc]
    refine Nat.le_trans m2 ?_
    rw [← Nat.mul_add, ← Nat.mul_add]
    refine Nat.mul_le_mul_left _ ?_
    have g1 := Nat.mul_le_mul_right W hd'
    have g2 : 9 * W ≤ R * W := Nat.mul_le_mul_right _ hR9
    have g3 : (d * d + 28 * R) * W = d * d * W + 27 * R * W + R * W := by grind
    have g4 : d' * R * W = d' * W * R := by grind
    omega
  have hTp : 0 < T := by rw [hT]; exact Nat.mul_pos hR hWp
  exact Nat.le_of_mul_le_mul_right (Nat.le_of_mul_le_mul_left m3 (by have := Nat.mul_pos hTp hTp; omega)) hR

end Go.Proofs.YtefpoconpeggpaaGreatDoor.Rd

namespace Go.Proofs.YtefpoconpeggpaaGreatDoor.Rd
set_option linter.unusedVariables false
set_option maxRecDepth 100000

theorem sq_le_of_le {a b : Nat} (h : a ≤ b) : a * a ≤ b * b := Nat.mul_le_mul h h

/-- A number whose square is near is near the root. -/
theorem root_near (n s g x R : Nat) (hR : 0 < R) (h1 : s * s ≤ n) (h2 : n < (s + 1) * (s + 1)) (lo : g * g * R ≤ n * R + x) (hi : n * R ≤ (g + 1) * (g + 1) * R + x) (hx : x + R < 2 * s * R) : g ≤ s + 1 ∧ s ≤ g + 1 := by
  have e1 : (s + 1) * (s + 1) = s * s + 2 * s + 1 := by grind
  constructor
  · apply Nat.not_lt.1
    intro h
    have h3 := sq_le_of_le (show s + 2 ≤ g by omega)
    have e2 : (s + 2) * (s + 2) = s * s + 4 * s + 4 := by grind
    have h4 : n + 2 * s + 1 ≤ g * g := by omega
    have h5 := Nat.mul_le_mul_right R h4
    have e3 : (n + 2 * s + 1) * R = n * R + 2 * s * R + R := by grind
    omega
  · apply Nat.not_lt.1
    intro h
    obtain ⟨u, rfl⟩ : ∃ u, s = u + 1 := ⟨s - 1, by omega⟩
    have h3 := sq_le_of_le (show g + 1 ≤ u by omega)
    have h4 := Nat.mul_le_mul_right R h3
    have h5 := Nat.mul_le_mul_right R h1
    have e2 : (u + 1) * (u + 1) * R + R = u * u * R + 2 * (u + 1) * R := by grind
    omega

/-- The guess for a root by a reciprocal. -/
theorem nroot_guess (R C n y s d : Nat) (hR : 0 < R) (hC : 0 < C) (h1 : s * s ≤ n) (h2 : n < (s + 1) * (s + 1)) (hE : (((R * (R * (C * C)) : Nat) : Int) - ((n * (y * y) : Nat) : Int)).natAbs ≤ d * (R * (C * C))) (hd : n * d + R < 2 * s * R) :
    n * y / (R * C) ≤ s + 1 ∧ s ≤ n * y / (R * C) + 1 := by
  have hG : 0 < R * C := Nat.mul_pos hR hC
  have h3 := Nat.div_add_mod (n * y) (R * C)
  have h4 := Nat.mod_lt (n * y) hG
  generalize n * y / (R * C) = g at *
  generalize n * y % (R * C) = m at *
  obtain ⟨W, hW⟩ : ∃ W, W = R * (C * C) := ⟨_, rfl⟩
  have hWp : 0 < W := by rw [hW]; exact Nat.mul_pos hR (Nat.mul_pos hC hC)
  rw [← hW] at hE
  have eG : (R * C) * (R * C) = R * W := by rw [hW]; grind
  have a1 : R * C * g ≤ n * y := by omega
  have a2 : n * y ≤ R * C * (g + 1) := by rw [Nat.mul_add]; omega
  have b1 := sq_le_of_le a1
  have b2 := sq_le_of_le a2
  have e1 : R * C * g * (R * C * g) = g * g * R * W := by
    have : R * C * g * (R * C * g) = g * g * ((R * C) * (R * C)) := by grind
    rw [this, eG, ← Nat.mul_assoc]
  have e2 : R * C * (g + 1) * (R * C * (g + 1)) = (g + 1) * (g + 1) * R * W := by
    have : R * C * (g + 1) * (R * C * (g + 1)) = (g + 1) * (g + 1) * ((R * C) * (R * C)) := by grind
    rw [this, eG, ← Nat.mul_assoc]
  have e3 : n * y * (n * y) = n * (n * (y * y)) := by grind
  rw [e1, e3] at b1
  rw [e2, e3] at b2
  have c1 : n * (y * y) ≤ R * W + d * W := by omega
  have c2 : R * W ≤ n * (y * y) + d * W := by omega
  have f1 := Nat.mul_le_mul_left n c1
  have f2 := Nat.mul_le_mul_left n c2
  have lo : g * g * R ≤ n * R + n * d := by
    have : g * g * R * W ≤ (n * R + n * d) * W := by
      have e : n * (R * W + d * W) = (n * R + n * d) * W := by grind
      omega
    exact Nat.le_of_mul_le_mul_right this hWp
  have hi : n * R ≤ (g + 1) * (g + 1) * R + n * d := by
    have : n * R * W ≤ ((g + 1) * (g + 1) * R + n * d) * W := by
      have e : n * (n * (y * y) + d * W) = n * (n * (y * y)) + n * d * W := by grind
      have e' : ((g + 1) * (g + 1) * R + n * d) * W = (g + 1) * (g + 1) * R * W + n * d * W := Nat.add_mul _ _ _
      have e'' : n * (R * W) = n * R * W := (Nat.mul_assoc _ _ _).symm
      omega
    exact Nat.le_of_mul_le_mul_right this hWp
  exact root_near n s g (n * d) R hR h1 h2 lo hi hd

/-- The greatest number, from s on, whose square isn't above v. -/
def isq : Nat → Nat → Nat → Nat
  | 0, s, _ => s
  | f + 1, s, v => if (s + 1) * (s + 1) ≤ v then isq f (s + 1) v else s
/-- The table's guess for a radicand. -/
def rguessAt (i : Nat) : Nat := isq 2000 0 (2 ^ 26 / (2 * i + 1))
theorem rguess_table : ∀ i : Nat, i < 128 → 32 ≤ i → rguessAt i * rguessAt i * (i + 1) ≤ 34603008 ∧ 32505856 ≤ rguessAt i * rguessAt i * i ∧ rguessAt i ≤ 1016 := by decide +kernel
def nrootY (n : Nat) : Nat → Nat
  | 0 => rguessAt (n / 2 ^ 249) * 2 ^ 151
  | m + 1 => nrootY n m * (3 * R - n * (nrootY n m * nrootY n m / R) / (K * K)) / (2 * R)
def deltas : Nat → Nat
  | 0 => 2 ^ 155
  | 1 => 2 ^ 151
  | 2 => 2 ^ 143
  | 3 => 2 ^ 127
  | 4 => 2 ^ 95
  | _ => 2 ^ 31
theorem deltas_step : ∀ n, n < 5 → deltas n * deltas n + 28 * R ≤ deltas (n + 1) * R := by decide
theorem deltas_le : ∀ n, n < 6 → deltas n ≤ 2 ^ 155 := by decide
def rootI (n d y : Nat) : Prop := (((R * (R * (K * K)) : Nat) : Int) - ((n * (y * y) : Nat) : Int)).natAbs ≤ d * (R * (K * K))
theorem rootI_small (n d y : Nat) (h1 : 2 ^ 254 ≤ n) (hd : d ≤ 2 ^ 155) (h : rootI n d y) : y ≤ 3 * R ∧ n * (y * y / R) / (K * K) ≤ 3 * R := by
  unfold rootI at h
  have hW : 0 < R * (K * K) := by decide
  have hdW : d * (R * (K * K)) ≤ R * (R * (K * K)) := Nat.mul_le_mul_right _ (Nat.le_trans hd (by decide))
  have hx : n * (y * y) ≤ 2 * (R * (R * (K * K))) := by omega
  constructor
  · apply Nat.not_lt.1
    intro hy
    have h3 := Nat.mul_le_mul h1 (sq_le_of_le (show 3 * R ≤ y by omega))
    have h4 : 2 * (R * (R * (K * K))) < 2 ^ 254 * (3 * R * (3 * R)) := by decide
    omega
  · have h5 : n * (y * y / R) * R ≤ n * (y * y) := by
      rw [Nat.mul_assoc]
      exact Nat.mul_le_mul_left _ (Nat.div_mul_le_self _ _)
    have h6 : n * (y * y / R) * R ≤ 3 * R * (K * K) * R := by
      have : 2 * (R * (R * (K * K))) ≤ 3 * R * (K * K) * R := by decide
      omega
    have h7 := Nat.le_of_mul_le_mul_right h6 R_pos
    exact Nat.div_le_of_le_mul (by rw [Nat.mul_comm (K * K)]; exact h7)
theorem seed_aux (A C n g i r : Nat) (h3 : A * i + r = n) (h4 : r < A) (t1 : g * g * (i + 1) ≤ 34603008) (t2 : 32505856 ≤ g * g * i) :
    (((A * 33554432 * (C * C) : Nat) : Int) - ((n * (g * C * (g * C)) : Nat) : Int)).natAbs ≤ A * 1048576 * (C * C) := by
  have u : n * (g * g) ≤ A * (g * g * (i + 1)) := by
    rw [show A * (g * g * (i + 1)) = (A * i + A) * (g * g) by grind]
    exact Nat.mul_le_mul_right _ (by omega)
  have l : A * (g * g * i) ≤ n * (g * g) := by
    rw [show A * (g * g * i) = (A * i) * (g * g) by grind]
    exact Nat.mul_le_mul_right _ (by omega)
  have u2 := Nat.le_trans u (Nat.mul_le_mul_left A t1)
  have l2 := Nat.le_trans (Nat.mul_le_mul_left A t2) l
  have e : n * (g * C * (g * C)) = n * (g * g) * (C * C) := by grind
  rw [e]
  have U := Nat.mul_le_mul_right (C * C) u2
  have L := Nat.mul_le_mul_right (C * C) l2
  generalize n * (g * g) * (C * C) = x at *
  have e1 : A * 34603008 * (C * C) = 34603008 * (A * (C * C)) := by grind
  have e2 : A * 32505856 * (C * C) = 32505856 * (A * (C * C)) := by grind
  have e3 : A * 33554432 * (C * C) = 33554432 * (A * (C * C)) := by grind
  have e4 : A * 1048576 * (C * C) = 1048576 * (A * (C * C)) := by grind
  rw [e3, e4]
  rw [e1] at U
  rw [e2] at L
  generalize A * (C * C) = z at *
  omega
theorem rootI_zero (n : Nat) (h1 : 2 ^ 254 ≤ n) (h2 : n < K * K) : rootI n (2 ^ 155) (rguessAt (n / 2 ^ 249) * 2 ^ 151) := by
  have h3 := Nat.div_add_mod n (2 ^ 249)
  have h4 := Nat.mod_lt n (show 0 < 2 ^ 249 by decide)
  have i1 : 32 ≤ n / 2 ^ 249 := by omega
  have i2 : n / 2 ^ 249 < 128 := by
    have : K * K = 2 ^ 249 * 128 := by decide
    rw [this] at h2
    exact Nat.div_lt_of_lt_mul h2
  generalize n / 2 ^ 249 = i at *
  generalize n % 2 ^ 249 = r at *
  obtain ⟨t1, t2, _⟩ := rguess_table i i2 i1
  generalize rguessAt i = g at *
  have eR : R * (R * (K * K)) = 2 ^ 249 * 33554432 * (2 ^ 151 * 2 ^ 151) := by decide
  have eW : 2 ^ 155 * (R * (K * K)) = 2 ^ 249 * 1048576 * (2 ^ 151 * 2 ^ 151) := by decide
  unfold rootI
  rw [eR, eW]
  exact seed_aux (2 ^ 249) (2 ^ 151) n g i r h3 h4 t1 t2
theorem nrootY_near (n : Nat) (h1 : 2 ^ 254 ≤ n) (h2 : n < K * K) (m : Nat) (hm : m ≤ 5) : rootI n (deltas m) (nrootY n m) := by
  induction m with
  | zero => exact rootI_zero n h1 h2
  | succ m ih =>
    have ih := ih (by omega)
    have hs := rootI_small n _ _ h1 (deltas_le m (by omega)) ih
    exact nroot_step R (K * K) n (nrootY n m) (deltas m) (deltas (m + 1)) (by decide) (by decide) (Nat.le_of_lt h2) hs.1 (Nat.le_trans (deltas_le m (by omega)) (by decide)) ih hs.2 (deltas_step m (by omega))
theorem nroot_last (n s : Nat) (h1 : 2 ^ 254 ≤ n) (h2 : n < K * K) (hs1 : s * s ≤ n) (hs2 : n < (s + 1) * (s + 1)) : n * nrootY n 5 / (R * K) ≤ s + 1 ∧ s ≤ n * nrootY n 5 / (R * K) + 1 := by
  refine nroot_guess R K n (nrootY n 5) s (2 ^ 31) R_pos K_pos hs1 hs2 (nrootY_near n h1 h2 5 (Nat.le_refl _)) ?_
  have hs : 2 ^ 127 ≤ s := by
    apply Nat.not_lt.1
    intro h
    have h3 := sq_le_of_le (show s + 1 ≤ 2 ^ 127 by omega)
    have h4 : 2 ^ 127 * 2 ^ 127 = 2 ^ 254 := by decide
    omega
  have h3 : 2 * 2 ^ 127 * R ≤ 2 * s * R := Nat.mul_le_mul_right _ (Nat.mul_le_mul_left _ hs)
  have h4 : n * 2 ^ 31 ≤ K * K * 2 ^ 31 := Nat.mul_le_mul_right _ (Nat.le_of_lt h2)
  have h5 : K * K * 2 ^ 31 + R < 2 * 2 ^ 127 * R := by decide
  exact Nat.lt_of_le_of_lt (Nat.add_le_add_right h4 R) (Nat.lt_of_lt_of_le h5 h3)

end Go.Proofs.YtefpoconpeggpaaGreatDoor.Rd

namespace Go.Proofs.YtefpoconpeggpaaGreatDoor.Rd
open Go Go.RowKit
set_option linter.unusedVariables false
set_option linter.unusedSimpArgs false
set_option maxRecDepth 100000

/-- Once, by a contract of its function. -/
theorem once_G (f : FuncId) (hf : GoF Tryz.prog f) (cap : Array Value) (b off : Nat) (E : TypeId) (cs : Array Value) (Q : Array Value → World → World → Prop) (w : World) (hb : w.heap[b]? = some (.cells cs E))
    (h0 : cs[off]? = some (.int .u32 0)) (h1 : cs[off + 1]? = some (.int .i32 0))
    (hc : ∀ w1, w1.heap[b]? = some (.cells (cs.setIfInBounds (off + 1) (.int .i32 1)) E) → Keeps [b] w w1 → Calls Tryz.prog f cap w1 fun e w2 => e = .returned (.tuple #[]) ∧ ∃ cs2, w2.heap[b]? = some (.cells cs2 E) ∧ (∃ x, cs2[off]? = some x) ∧ cs2[off + 1]? = some (.int .i32 1) ∧ Q cs2 w1 w2) :
    Calls Tryz.prog 110 #[.pointer (some ⟨b, off, none⟩), .func (.func f) #[] cap] w fun e w' => e = .returned (.tuple #[]) ∧ ∃ cs2 w1 w2, Q cs2 w1 w2 ∧ Keeps [b] w w1 ∧ Keeps [b] w2 w' ∧
      w'.heap[b]? = some (.cells ((cs2.setIfInBounds off (.int .u32 1)).setIfInBounds (off + 1) (.int .i32 0)) E) := by
  have c0 : w.cell? ⟨b, off, none⟩ = some (.int .u32 0) := by rw [cell_of_row w b off cs E _ hb]; exact h0
  have c1 : w.cell? ⟨b, off + 1, none⟩ = some (.int .i32 0) := by rw [cell_of_row w b (off + 1) cs E _ hb]; exact h1
  have f0 := frozen_of_row w b off cs E hb
  have f1 := frozen_of_row w b (off + 1) cs E hb
  have g1 := heap_setCell_same w b (off + 1) cs E (.int .i32 1) hb
  have k1 : Keeps [b] w (w.setCell ⟨b, off + 1, none⟩ (.int .i32 1)) := ⟨rfl, rfl, rfl, by simp [World.setCell], fun k _ hn => heap_setCell_other w ⟨b, off + 1, none⟩ k _ (by simpa using hn)⟩
  refine (on_do f hf cap b off (fun w2 => ∃ cs2, w2.heap[b]? = some (.cells cs2 E) ∧ Q cs2 (w.setCell ⟨b, off + 1, none⟩ (.int .i32 1)) w2) w c0 c1 f0 f1 ?_).mono ?_
  · refine (hc _ g1 k1).mono ?_
    rintro e w2 ⟨rfl, cs2, hb2, ⟨x, hx⟩, h3, hQ⟩
    exact ⟨rfl, ⟨x, by rw [cell_of_row w2 b off cs2 E _ hb2]; exact hx⟩, frozen_of_row w2 b off cs2 E hb2, by rw [cell_of_row w2 b (off + 1) cs2 E _ hb2]; exact h3, frozen_of_row w2 b (off + 1) cs2 E hb2, cs2, hb2, hQ⟩
  · rintro e w' ⟨rfl, w2, ⟨cs2, hb2, hQ⟩, rfl⟩
    have hd : w2.drew.heap[b]? = some (.cells cs2 E) := by rw [(Keeps.drew w2).block b (lt_of_some hb2) (by simp)]; exact hb2
    have e1 := heap_setCell_same w2.drew b off cs2 E (.int .u32 1) hd
    have e2 := heap_setCell_same _ b (off + 1) _ E (.int .i32 0) e1
    have sc : ∀ (w : World) o v, Keeps [b] w (w.setCell ⟨b, o, none⟩ v) := fun w o v => ⟨rfl, rfl, rfl, by simp [World.setCell], fun k _ hn => heap_setCell_other w ⟨b, o, none⟩ k _ (by simpa using hn)⟩
    exact ⟨rfl, cs2, _, w2, hQ, k1, (((Keeps.drew w2).mono (by simp)).trans (sc _ _ _) (fun x hx _ => hx)).trans (sc _ _ _) (fun x hx _ => hx), e2⟩

/-- The rom's cells. -/
def romC (dn lk mk : Int) (R T : Nat) : Array Value := #[.int .u32 dn, .int .i32 lk, .int .u32 0, .int .i64 mk] ++ (wc 64 R ++ wc 96 T)
def recipAt (i : Nat) : Nat := 131072 / (129 + 2 * i)
/-- The tables. -/
def romR : Nat := lsum recipAt 64
def romT : Nat := lsum (fun i => rguessAt (i + 32)) 96
def romF : Array Value := romC 1 0 1 romR romT
def RomOk (c : Array Value) : Prop := c = romC 0 0 0 0 0 ∨ c = romF
theorem isq_spec : ∀ (f s v : Nat), s * s ≤ v → v < (s + f) * (s + f) → IsRoot v (isq f s v)
  | 0, s, v, h1, h2 => by simp at h2; omega
  | f + 1, s, v, h1, h2 => by
    unfold isq
    split
    · rename_i h; exact isq_spec f (s + 1) v h (by rw [show s + 1 + f = s + (f + 1) by omega]; exact h2)
    · rename_i h; exact ⟨h1, by omega⟩

set_option maxHeartbeats 1000000 in
theorem rom_root (n : Nat) (hn : n < 4000000) : Gives Tryz.prog 215 #[.int .u64 n] (.int .u64 (isq 2000 0 n : Nat)) := by
  intro w0
  have hst := St.start [] w0
  have hr := isq_spec 2000 0 n (by omega) (by omega)
  have hu := Lib.hid (fun t (h : IsRoot n t) => h.uniq hr)
  clear hr
  go_enter Tryz.func215, Tryz.ntmps215
  go_wp2_with fail
  go_loopw [3] (fun u wr => ∃ s : Nat, u = .int .u64 s ∧ s * s ≤ n ∧ St w0 [] [] wr) (fun u _ => 3000 - (intOf u).toNat)
  case atStart => exact ⟨0, rfl, by omega, hst⟩
  case round =>
    clear hst
    obtain ⟨s, rfl, hs, hst⟩ := hrel
    have hs2 : s < 2000 := by
      rcases Nat.lt_or_ge s 2000 with h | h
      · exact h
      · have := Nat.mul_le_mul h h; omega
    obtain ⟨q, hq⟩ : ∃ q, q = (s + 1) * (s + 1) := ⟨_, rfl⟩
    have hqb : q ≤ 4000000 := by rw [hq]; exact Nat.mul_le_mul (show s + 1 ≤ 2000 by omega) (show s + 1 ≤ 2000 by omega)
    have F1 : IntKind.u64.wrap ((s : Int) + 1) = ((s + 1 : Nat) : Int) := u64_wrap' _ (s + 1) _ (by omega) (Nat.mod_eq_of_lt (by rw [B_val]; omega))
    have F2 : IntKind.u64.wrap (((s + 1 : Nat) : Int) * ((s + 1 : Nat) : Int)) = (q : Int) := u64_wrap' _ q _ (by rw [hq]; simp) (Nat.mod_eq_of_lt (by rw [B_val]; omega))
    have F3 : IntKind.u64.wrap (((s : Int) + 1) * ((s : Int) + 1)) = (q : Int) := u64_wrap' _ q _ (by rw [hq]; simp) (Nat.mod_eq_of_lt (by rw [B_val]; omega))
    have hs' := Lib.hid hs
    have hq' := Lib.hid hq
    clear hs hq
    by_cases hle : q ≤ n
    · have hle' : (q : Int) ≤ (n : Int) := by omega
      go_wp2_with fail
      exact ⟨⟨s + 1, by go_num, by rw [← hq'.out]; exact hle, hst⟩, by simp [intOf]; omega⟩
    · have hle' : ¬ ((q : Int) ≤ (n : Int)) := by omega
      have e := Lib.hid (hu.out s ⟨hs'.out, by rw [← hq'.out]; omega⟩)
      go_wp2_with fail
      refine bp_t rfl rfl (by rfl) ⟨?_, hst.keeps⟩
      rw [← e.out]; rfl

theorem rom_recip (i : Nat) (hi : i < 64) : Gives Tryz.prog 213 #[.int .u64 i] (.int .u64 (recipAt i : Nat)) := by
  intro w0
  have hst := St.start [] w0
  have F1 : IntKind.u64.wrap (2 * (i : Int)) = ((2 * i : Nat) : Int) := u64_wrap' _ (2 * i) _ (by omega) (Nat.mod_eq_of_lt (by rw [B_val]; omega))
  have F2 : IntKind.u64.wrap (129 + ((2 * i : Nat) : Int)) = ((129 + 2 * i : Nat) : Int) := u64_wrap' _ (129 + 2 * i) _ (by omega) (Nat.mod_eq_of_lt (by rw [B_val]; omega))
  have F2' : IntKind.u64.wrap (129 + 2 * (i : Int)) = ((129 + 2 * i : Nat) : Int) := u64_wrap' _ (129 + 2 * i) _ (by omega) (Nat.mod_eq_of_lt (by rw [B_val]; omega))
  obtain ⟨d, hd⟩ : ∃ d, d = 129 + 2 * i := ⟨_, rfl⟩
  have hd0 : ¬ ((d : Int) = 0) := by omega
  obtain ⟨q, hq⟩ : ∃ q, q = recipAt i := ⟨_, rfl⟩
  have hqd : q = 131072 / d := by rw [hq, hd]; rfl
  have F3 : (131072 : Int) / (d : Int) = (q : Int) := by rw [hqd, Int.natCast_ediv]; rfl
  have F4 : (131072 : Int).tdiv (d : Int) = (q : Int) := by rw [Int.tdiv_eq_ediv_of_nonneg (by omega)]; exact F3
  have hqB : q ≤ 131072 := by rw [hqd]; exact Nat.div_le_self _ _
  have F5 : IntKind.u64.wrap (q : Int) = (q : Int) := u64_wrap' _ q _ rfl (Nat.mod_eq_of_lt (by rw [B_val]; omega))
  rw [← hq]
  rw [← hd] at F2 F2'
  clear hd hq hqd
  go_enter Tryz.func213, Tryz.ntmps213
  go_wp2_with fail
  refine bp_t rfl rfl (by rfl) ⟨?_, hst.keeps⟩
  go_num

theorem rom_guess (i : Nat) (hi : i < 96) : Gives Tryz.prog 214 #[.int .u64 i] (.int .u64 (rguessAt (i + 32) : Nat)) := by
  intro w0
  have hst := St.start [] w0
  have F0 : IntKind.u64.wrap ((i : Int) + 32) = ((i + 32 : Nat) : Int) := u64_wrap' _ (i + 32) _ (by omega) (Nat.mod_eq_of_lt (by rw [B_val]; omega))
  have F1 : IntKind.u64.wrap (2 * ((i + 32 : Nat) : Int)) = ((2 * (i + 32) : Nat) : Int) := u64_wrap' _ (2 * (i + 32)) _ (by omega) (Nat.mod_eq_of_lt (by rw [B_val]; omega))
  have F2 : IntKind.u64.wrap (((2 * (i + 32) : Nat) : Int) + 1) = ((2 * (i + 32) + 1 : Nat) : Int) := u64_wrap' _ (2 * (i + 32) + 1) _ (by omega) (Nat.mod_eq_of_lt (by rw [B_val]; omega))
  obtain ⟨d, hd⟩ : ∃ d, d = 2 * (i + 32) + 1 := ⟨_, rfl⟩
  have hd0 : ¬ ((d : Int) = 0) := by omega
  obtain ⟨q, hqd⟩ : ∃ q, q = 67108864 / d := ⟨_, rfl⟩
  have F3 : (67108864 : Int) / (d : Int) = (q : Int) := by rw [hqd, Int.natCast_ediv]; rfl
  have F4 : (67108864 : Int).tdiv (d : Int) = (q : Int) := by rw [Int.tdiv_eq_ediv_of_nonneg (by omega)]; exact F3
  have hqB : q < 4000000 := by
    rw [hqd]
    exact Nat.lt_of_le_of_lt (Nat.div_le_div_left (show 65 ≤ d by omega) (by omega)) (by decide)
  have F5 : IntKind.u64.wrap (q : Int) = (q : Int) := u64_wrap' _ q _ rfl (Nat.mod_eq_of_lt (by rw [B_val]; omega))
  have hroot := rom_root q hqB
  have e : isq 2000 0 q = rguessAt (i + 32) := by unfold rguessAt; rw [hqd, hd]
  rw [e] at hroot
  rw [← hd] at F2
  clear hqd e hd
  generalize 2 * (i + 32) = x1 at *
  generalize i + 32 = x2 at *
  go_enter Tryz.func214, Tryz.ntmps214
  go_wp2_with ((first | (refine kf gf215 hst (hroot) rfl rfl rfl rfl ?_; clear hst; intro w hst)); try simp only [pz, pn, sz, sc])
  refine bp_t rfl rfl (by rfl) ⟨?_, hst.keeps⟩
  rfl

theorem mid_set (pre post : Array Value) (k n d j o : Nat) (ho : pre.size = o) (hj : j < k) (hn : n < B ^ j) (hd : d < B) :
    (pre ++ (wc k n ++ post)).setIfInBounds (o + j) (.int .u64 (d : Nat)) = pre ++ (wc k (n + d * B ^ j) ++ post) := by
  rw [← wc_set k n d j hn hd]
  apply Array.ext_getElem?
  intro i
  rw [Array.getElem?_setIfInBounds, Array.getElem?_append, Array.getElem?_append, Array.getElem?_append, Array.getElem?_append, Array.getElem?_setIfInBounds]
  simp only [Array.size_append, wc_size, Array.size_setIfInBounds]
  (repeat' split) <;> first | rfl | omega

set_option maxHeartbeats 2000000 in
theorem rom_fill (g : FuncId) (hg : GoF Tryz.prog g) (f : Nat → Nat) (hf : ∀ i, f i < B) (k : Nat) (hk : k ≤ 100) (hgf : ∀ i, i < k → Gives Tryz.prog g #[.int .u64 (i : Nat)] (.int .u64 (f i : Nat)))
    (pre post : Array Value) (b o : Nat) (ho : pre.size = o) (E : TypeId) (w0 : World) (hb : w0.heap[b]? = some (.cells (pre ++ (wc k 0 ++ post)) E)) :
    GivesT Tryz.prog 212 #[.slice (some ⟨b, o, none⟩) k k, .func (.func g) #[] #[]] (.tuple #[]) [(b, .cells (pre ++ (wc k 0 ++ post)) E)] [(b, .cells (pre ++ (wc k (lsum f k) ++ post)) E)] w0 := by
  have hst := (St.start [b] w0).add hb (by simp)
  have hf' := Lib.hid hf
  have ho' := Lib.hid ho
  clear hf hb ho
  go_enter Tryz.func212, Tryz.ntmps212
  go_wp2_with fail
  go_loopw [4, 7] (fun u i wr => ∃ j : Nat, j ≤ k ∧ i = .int .i64 j ∧ St w0 [b] [(b, .cells (pre ++ (wc k (lsum f j) ++ post)) E)] wr) (fun _ i _ => k - (intOf i).toNat)
  case atStart => exact ⟨0, by omega, rfl, hst⟩
  case round =>
    clear hst
    obtain ⟨j, hj, rfl, hst⟩ := hrel
    by_cases hlt : j < k
    · have hi0 : (0 : Int) ≤ (j : Int) := by omega
      have hi8 : (j : Int) < (k : Int) := by omega
      have hc := hgf j hlt
      have hw : IntKind.u64.wrap (j : Int) = (j : Int) := u64_wrap' _ j _ rfl (Nat.mod_eq_of_lt (by rw [B_val]; omega))
      have hset := Lib.hid (mid_set pre post k (lsum f j) (f j) j o ho'.out hlt (lsum_lt f hf'.out j) (hf'.out j))
      have hsz : o + j < (pre ++ (wc k (lsum f j) ++ post)).size := by
        rw [Array.size_append, Array.size_append, wc_size, ho'.out]; omega
      go_wp2_with ((first | (refine kf hg hst (hc) rfl rfl rfl rfl ?_; clear hst; intro w hst) | (refine ks hst tc22 rfl rfl ?_; clear hst; intro w hst; (try rw [hset.out] at hst))); try simp only [pz, pn, sz, sc])
      exact ⟨⟨j + 1, by omega, by go_num, hst⟩, by simp [intOf]; omega⟩
    · have : j = k := by omega
      subst this
      have hi8 : ¬ ((j : Int) < (j : Int)) := by omega
      go_wp2_with fail
      first | exact bp_0 rfl rfl (GivesT.of hst rfl (by simp)) | exact bp_0 rfl rfl ⟨rfl, hst.keeps, hst.own _ _ (by simp)⟩

end Go.Proofs.YtefpoconpeggpaaGreatDoor.Rd

namespace Go.Proofs.YtefpoconpeggpaaGreatDoor.Rd
open Go Go.RowKit
set_option linter.unusedVariables false
set_option linter.unusedSimpArgs false
set_option maxRecDepth 100000

theorem sc_keeps (w : World) (b o : Nat) (v : Value) : Keeps [b] w (w.setCell ⟨b, o, none⟩ v) := ⟨rfl, rfl, rfl, by simp [World.setCell], fun k _ hn => heap_setCell_other w ⟨b, o, none⟩ k _ (by simpa using hn)⟩

set_option maxHeartbeats 1000000 in
theorem int64_Add (b o : Nat) (x : Int) (h1 : 0 ≤ x) (h2 : x ≤ 1000000) (cs : Array Value) (E : TypeId) (hx : cs[o]? = some (.int .i64 x)) (w0 : World) (hb : w0.heap[b]? = some (.cells cs E)) :
    GivesT Tryz.prog 109 #[.pointer (some ⟨b, o, none⟩), .int .i64 1] (.int .i64 (x + 1)) [(b, .cells cs E)] [(b, .cells (cs.setIfInBounds o (.int .i64 (x + 1))) E)] w0 := by
  have hc : w0.cell? ⟨b, o, none⟩ = some (.int .i64 x) := by rw [cell_of_row w0 b o cs E _ hb]; exact hx
  have hz := frozen_of_row w0 b o cs E hb
  have hadd := run_call_add (P := Tryz.prog) Tryz.func136 (by kernel_rfl) (by kernel_rfl) (by kernel_rfl) .i64 (by kernel_rfl) (y := 1) (s := x + 1) hc hz (by
    have := i64w (x + 1) (by omega) (by omega)
    simp [go_sem]
    first | exact this | (rw [this])  | omega)
  have e1 := heap_setCell_same w0 b o cs E (.int .i64 (x + 1)) hb
  have k1 := sc_keeps w0 b o (.int .i64 (x + 1))
  have hfin : (Ending.returned (.int .i64 (x + 1)) = .returned (.int .i64 (x + 1))) ∧ Keeps [b] w0 (w0.setCell ⟨b, o, none⟩ (.int .i64 (x + 1))) ∧ (w0.setCell ⟨b, o, none⟩ (.int .i64 (x + 1))).heap[b]? = some (.cells (cs.setIfInBounds o (.int .i64 (x + 1))) E) := ⟨rfl, k1, e1⟩
  have hfin' := Lib.hid hfin
  clear hfin e1 k1 hb hx
  go_enter Tryz.func109, Tryz.ntmps109
  go_wp2
  go_ret
  have := hfin'.out
  simpa using this

theorem recipAt_lt (i : Nat) : recipAt i < B := Nat.lt_of_le_of_lt (Nat.div_le_self _ _) (by rw [B_val]; omega)
theorem isq_le : ∀ (f s v : Nat), isq f s v ≤ s + f
  | 0, s, v => Nat.le_refl _
  | f + 1, s, v => by
    unfold isq
    split
    · have := isq_le f (s + 1) v; omega
    · omega
theorem rguess_lt (i : Nat) : rguessAt i < B := Nat.lt_of_le_of_lt (isq_le 2000 0 _) (by rw [B_val]; omega)

theorem app_set (A X : Array Value) (i : Nat) (v : Value) (h : i < A.size) : (A ++ X).setIfInBounds i v = A.setIfInBounds i v ++ X := by
  apply Array.ext_getElem?
  intro k
  rw [Array.getElem?_setIfInBounds, Array.getElem?_append, Array.getElem?_append, Array.getElem?_setIfInBounds, Array.size_setIfInBounds, Array.size_append]
  (repeat' split) <;> first | rfl | omega
/-- The tables are made. -/
theorem romC_get (dn lk mk : Int) (R T : Nat) : (romC dn lk mk R T)[0]? = some (.int .u32 dn) ∧ (romC dn lk mk R T)[0 + 1]? = some (.int .i32 lk) ∧ (romC dn lk mk R T)[3]? = some (.int .i64 mk) := ⟨pre_get (cells_get rfl), pre_get (cells_get rfl), pre_get (cells_get rfl)⟩
theorem romC_set0 (dn dn' lk mk : Int) (R T : Nat) : (romC dn lk mk R T).setIfInBounds 0 (.int .u32 dn') = romC dn' lk mk R T := by
  unfold romC; rw [app_set _ _ _ _ (by simp)]; rfl
theorem romC_set1 (dn lk lk' mk : Int) (R T : Nat) : (romC dn lk mk R T).setIfInBounds (0 + 1) (.int .i32 lk') = romC dn lk' mk R T := by
  unfold romC; rw [app_set _ _ _ _ (by simp)]; rfl
theorem romC_set3 (dn lk mk mk' : Int) (R T : Nat) : (romC dn lk mk R T).setIfInBounds 3 (.int .i64 mk') = romC dn lk mk' R T := by
  unfold romC; rw [app_set _ _ _ _ (by simp)]; rfl
/-- The root's table apart. -/
theorem romC_root (dn lk mk : Int) (R T : Nat) : romC dn lk mk R T = (#[.int .u32 dn, .int .i32 lk, .int .u32 0, .int .i64 mk] ++ wc 64 R) ++ (wc 96 T ++ #[]) := by unfold romC; simp

set_option maxHeartbeats 2000000 in
theorem rom_ready_1 (b1 br : Nat) (E1 : TypeId) (hne : br ≠ b1) (w0 : World) (h1 : w0.heap[b1]? = some (.cells #[.pointer (some ⟨br, 0, none⟩)] E1)) (hr : w0.heap[br]? = some (.cells (romC 0 1 0 0 0) 121)) :
    GivesT Tryz.prog 211 #[.pointer (some ⟨b1, 0, none⟩)] (.tuple #[]) [(br, .cells (romC 0 1 0 0 0) 121)] [(br, .cells (romC 0 1 1 romR romT) 121)] w0 := by
  have hst : St w0 [br] [(br, .cells (romC 0 1 0 0 0) 121), (b1, .cells #[.pointer (some ⟨br, 0, none⟩)] E1)] w0 := ((St.start [br] w0).add h1 (by simp)).add hr (by simpa using hne)
  have f1 := fun (w : World) (h : w.heap[br]? = some (.cells (romC 0 1 0 0 0) 121)) => rom_fill 213 gf213 recipAt recipAt_lt 64 (by omega) rom_recip #[.int .u32 0, .int .i32 1, .int .u32 0, .int .i64 0] (wc 96 0) br 4 rfl 121 w h
  have f2 := fun (w : World) (h : w.heap[br]? = some (.cells (romC 0 1 0 romR 0) 121)) => rom_fill 214 gf214 (fun i => rguessAt (i + 32)) (fun i => rguess_lt _) 96 (by omega) rom_guess (#[.int .u32 0, .int .i32 1, .int .u32 0, .int .i64 0] ++ wc 64 romR) #[] br 68 (by simp) 121 w (by rw [← romC_root]; exact h)
  rw [← romC_root] at f2
  have f3 := fun (w : World) (h : w.heap[br]? = some (.cells (romC 0 1 0 romR romT) 121)) => int64_Add br 3 0 (by omega) (by omega) (romC 0 1 0 romR romT) 121 (romC_get _ _ _ _ _).2.2 w h
  rw [romC_set3] at f3
  have e1 : (#[.int .u32 0, .int .i32 1, .int .u32 0, .int .i64 0] ++ (wc 64 0 ++ wc 96 0) : Array Value) = romC 0 1 0 0 0 := rfl
  have e2 : (#[.int .u32 0, .int .i32 1, .int .u32 0, .int .i64 0] ++ (wc 64 (lsum recipAt 64) ++ wc 96 0) : Array Value) = romC 0 1 0 romR 0 := rfl
  rw [e1, e2] at f1
  have e3 : lsum (fun i => rguessAt (i + 32)) 96 = romT := rfl
  rw [e3, ← romC_root] at f2
  have e4 : (0 : Int) + 1 = 1 := rfl
  rw [e4] at f3
  clear e1 e2 e3 e4 h1 hr
  generalize romC 0 1 0 0 0 = c0 at *
  generalize romC 0 1 0 romR 0 = c1 at *
  generalize romC 0 1 0 romR romT = c2 at *
  generalize romC 0 1 1 romR romT = c3 at *
  go_enter Tryz.func211, Tryz.ntmps211
  go_wp2_with ((first | (refine kT gf212 hst (fun w hst => f1 w (hst.own _ _ (by simp))) rfl rfl rfl rfl ?_; clear hst; intro w hst) | (refine kT gf212 hst (fun w hst => f2 w (hst.own _ _ (by simp))) rfl rfl rfl rfl ?_; clear hst; intro w hst) | (refine kT gf109 hst (fun w hst => f3 w (hst.own _ _ (by simp))) rfl rfl rfl rfl ?_; clear hst; intro w hst) | (refine kc hst tc67 rfl ?_)); try simp only [pz, pn, sz, sc])
  first | exact bp_0 rfl rfl (GivesT.of hst rfl (by simp)) | exact bp_0 rfl rfl ⟨rfl, hst.keeps, hst.own _ _ (by simp)⟩

end Go.Proofs.YtefpoconpeggpaaGreatDoor.Rd
