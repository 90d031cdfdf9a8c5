/- What ref25.Some, ref07.Of, ref09.floor, ref08.Grows, ref25.Real answer. -/
import Derived.Test.YtefpoconpeggpaaGreatDoorJ11
import Derived.Test.YtefpoconpeggpaaGreatDoorJ20
import Derived.Test.YtefpoconpeggpaaGreatDoorJ12
namespace Go.Proofs.YtefpoconpeggpaaGreatDoor.Rd
set_option linter.unusedVariables false

theorem cut_scale (r b t : Nat) : r * 2 ^ t / 2 ^ (b + t) = r / 2 ^ b ∧ r * 2 ^ t % 2 ^ (b + t) = r % 2 ^ b * 2 ^ t := by
  rw [Nat.pow_add]
  exact ⟨Nat.mul_div_mul_right _ _ (Nat.pow_pos (by omega)), Nat.mul_mod_mul_right ..⟩
theorem rest_scale (r b t : Nat) : restN (r * 2 ^ t) (b + t) false = restN r b false := by
  obtain ⟨h1, h2⟩ := cut_scale r b t
  have hp : 0 < 2 ^ t := Nat.pow_pos (by omega)
  unfold restN
  by_cases hb : b = 0
  · subst hb
    rw [if_pos rfl]
    by_cases ht : t = 0
    · subst ht; simp
    · rw [if_neg (by omega), h2, Nat.pow_zero, Nat.mod_one, Nat.zero_mul, if_pos ⟨rfl, rfl⟩]; simp
  · rw [if_neg (by omega), if_neg hb, h2]
    obtain ⟨c, rfl⟩ : ∃ c, b = c + 1 := ⟨b - 1, by omega⟩
    rw [show c + 1 + t - 1 = c + t by omega, Nat.pow_add 2 c t, Nat.add_sub_cancel]
    generalize r % 2 ^ (c + 1) = x
    generalize 2 ^ c = y
    generalize 2 ^ t = z at *
    have e0 : x * z = 0 ↔ x = 0 := ⟨fun h => by rcases Nat.mul_eq_zero.1 h with h | h <;> omega, fun h => by rw [h, Nat.zero_mul]⟩
    have e1 : x * z < y * z ↔ x < y := Nat.mul_lt_mul_right hp
    have e2 : x * z = y * z ↔ x = y := ⟨fun h => Nat.eq_of_mul_eq_mul_right hp h, fun h => by rw [h]⟩
    simp only [e0, e1, e2]
theorem cutN_scale (r b t m : Nat) (neg : Bool) : cutN (r * 2 ^ t) (b + t) false m neg = cutN r b false m neg := by
  unfold cutN
  rw [rest_scale, (cut_scale r b t).1]

/-- The word of a sign, a field and a significand. -/
def encW (f : Nat) (neg : Bool) (j s : Nat) : Nat := wEnc f j s + (if neg then 2 ^ (fB f - 1) else 0)
/-- The word, and the flags, of what overflows: infinite, or the greatest one. -/
def overW (f m : Nat) (neg : Bool) : Nat := (if m = 1 ∨ m = 2 ∨ growsB m neg false 3 = true then (2 * fE f + 1) * 2 ^ (fP f - 1) else (2 * fE f + 1) * 2 ^ (fP f - 1) - 1) + (if neg then 2 ^ (fB f - 1) else 0)
/-- Rounded by the reference's road: of a number with more digits than the precision. -/
def rndR (f m : Nat) (neg : Bool) (e : Int) (r : Nat) (s : Bool) : Nat × Nat :=
  if (fE f : Int) < e + bl r - fP f + bl (cutN r (bl r - fP f) s m neg) - 1 then (overW f m neg, 20)
  else if e + bl r - fP f + bl (cutN r (bl r - fP f) s m neg) - 1 < 1 - (fE f : Int) then
    (encW f neg 0 (cutN r (2 - (fE f : Int) - fP f - e).toNat s m neg), if restN r (2 - (fE f : Int) - fP f - e).toNat s = 0 then 0 else 24)
  else (encW f neg (e + bl r - fP f + bl (cutN r (bl r - fP f) s m neg) - 1 - (1 - (fE f : Int))).toNat (cutN r (bl r - fP f) s m neg * 2 ^ fP f / 2 ^ bl (cutN r (bl r - fP f) s m neg)), if restN r (bl r - fP f) s = 0 then 0 else 16)

/-- A number rounded to p digits, as the program keeps it: its digits, their place, whether that isn't just it. -/
def rDig (p m : Nat) (neg : Bool) (e : Int) (r : Nat) (s : Bool) : Nat × Int × Bool := if bl r ≤ p then (r, e, s) else (cutN r (bl r - p) s m neg, e + (bl r - p : Nat), decide (restN r (bl r - p) s ≠ 0))
/-- A number rounded at a place. -/
def rAt (place : Int) (m : Nat) (neg : Bool) (e : Int) (r : Nat) (s : Bool) : Nat × Bool := if place - e ≤ 0 then (r * 2 ^ (e - place).toNat, s) else (cutN r (place - e).toNat s m neg, decide (restN r (place - e).toNat s ≠ 0))
/-- Rounded by the program's road. -/
def rndP (f m : Nat) (neg : Bool) (e : Int) (r : Nat) (s : Bool) : Nat × Nat :=
  let d := rDig (fP f) m neg e r s
  let top : Int := d.2.1 + bl d.1 - 1
  if (fE f : Int) < top then (overW f m neg, 20)
  else if top < 1 - (fE f : Int) then
    let c := rAt (1 - (fE f : Int) - fP f + 1) m neg e r s
    (encW f neg 0 c.1, if c.2 then 24 else 0)
  else (encW f neg (top - (1 - (fE f : Int))).toNat (d.1 * 2 ^ fP f / 2 ^ bl d.1), if d.2.2 then 16 else 0)

theorem cutN_zero (r m : Nat) (neg : Bool) : cutN r 0 false m neg = r := by
  unfold cutN restN growsB; simp

/-- Both roads are one; digits of 0 behind a number that is known whole count nothing. -/
theorem rnd_eq (f m : Nat) (neg : Bool) (e : Int) (r t : Nat) (s : Bool) (hr : r ≠ 0) (hp : fP f < bl r + t) (hs : s = true → t = 0) : rndR f m neg (e - t) (r * 2 ^ t) s = rndP f m neg e r s := by
  have hP := fP_in f
  have hE := fE_in f
  have hbl := bl_mul_pow r t hr
  have hb0 := bl_pos hr
  unfold rndR rndP rDig rAt
  rw [hbl]
  by_cases h1 : bl r ≤ fP f
  · -- fewer digits than the precision: known whole
    have hs0 : s = false := by
      cases s
      · rfl
      · have := hs rfl; omega
    subst hs0
    rw [if_pos h1]
    obtain ⟨d, hd⟩ : ∃ d, fP f = bl r + d := ⟨fP f - bl r, by omega⟩
    have hdt : d ≤ t := by omega
    have e1 : cutN (r * 2 ^ t) (bl r + t - fP f) false m neg = r * 2 ^ d := by
      obtain ⟨u, rfl⟩ : ∃ u, t = d + u := ⟨t - d, by omega⟩
      rw [show bl r + (d + u) - fP f = 0 + u by omega, Nat.pow_add, ← Nat.mul_assoc, cutN_scale, cutN_zero]
    have e2 : restN (r * 2 ^ t) (bl r + t - fP f) false = 0 := by
      obtain ⟨u, rfl⟩ : ∃ u, t = d + u := ⟨t - d, by omega⟩
      rw [show bl r + (d + u) - fP f = 0 + u by omega, Nat.pow_add, ← Nat.mul_assoc, rest_scale]
      unfold restN; simp
    have e3 : bl (r * 2 ^ d) = fP f := by rw [bl_mul_pow r d hr]; omega
    rw [e1, e2, e3]
    dsimp only
    have e4 : e - (t : Int) + ((bl r + t : Nat) : Int) - (fP f : Int) + (fP f : Int) - 1 = e + (bl r : Int) - 1 := by omega
    rw [e4]
    by_cases h2 : (fE f : Int) < e + (bl r : Int) - 1
    · rw [if_pos h2, if_pos h2]
    · rw [if_neg h2, if_neg h2]
      by_cases h3 : e + (bl r : Int) - 1 < 1 - (fE f : Int)
      · rw [if_pos h3, if_pos h3]
        by_cases h4 : 1 - (fE f : Int) - (fP f : Int) + 1 - e ≤ 0
        · rw [if_pos h4]
          dsimp only
          obtain ⟨u, hu⟩ : ∃ u, u = (e - (1 - (fE f : Int) - (fP f : Int) + 1)).toNat := ⟨_, rfl⟩
          have hut : u ≤ t := by omega
          obtain ⟨v, rfl⟩ : ∃ v, t = u + v := ⟨t - u, by omega⟩
          have e5 : (2 - (fE f : Int) - (fP f : Int) - (e - ((u + v : Nat) : Int))).toNat = 0 + v := by omega
          rw [e5, Nat.pow_add, ← Nat.mul_assoc, cutN_scale, rest_scale, cutN_zero, ← hu]
          unfold restN; simp
        · rw [if_neg h4]
          dsimp only
          have e5 : (2 - (fE f : Int) - (fP f : Int) - (e - (t : Int))).toNat = (1 - (fE f : Int) - (fP f : Int) + 1 - e).toNat + t := by omega
          rw [e5, cutN_scale, rest_scale]
          congr 1
          by_cases h5 : restN r (1 - (fE f : Int) - (fP f : Int) + 1 - e).toNat false = 0
          · rw [if_pos h5]; simp [h5]
          · rw [if_neg h5]; simp [h5]
      · rw [if_neg h3, if_neg h3, if_pos rfl]
        congr 2
        have hq : 0 < 2 ^ (bl r) := Nat.pow_pos (by omega)
        rw [Nat.mul_div_cancel _ (Nat.pow_pos (by omega)), hd, Nat.pow_add, Nat.mul_left_comm, Nat.mul_div_cancel_left _ hq]
  · rw [if_neg h1]
    dsimp only
    have e0 : bl r + t - fP f = bl r - fP f + t := by omega
    have e1 : cutN (r * 2 ^ t) (bl r + t - fP f) s m neg = cutN r (bl r - fP f) s m neg := by
      cases s
      · rw [e0, cutN_scale]
      · obtain rfl := hs rfl; rw [Nat.pow_zero, Nat.mul_one, Nat.add_zero]
    have e2 : restN (r * 2 ^ t) (bl r + t - fP f) s = restN r (bl r - fP f) s := by
      cases s
      · rw [e0, rest_scale]
      · obtain rfl := hs rfl; rw [Nat.pow_zero, Nat.mul_one, Nat.add_zero]
    rw [e1, e2]
    have e4 : e - (t : Int) + ((bl r + t : Nat) : Int) - (fP f : Int) + (bl (cutN r (bl r - fP f) s m neg) : Int) - 1 = e + ((bl r - fP f : Nat) : Int) + (bl (cutN r (bl r - fP f) s m neg) : Int) - 1 := by omega
    rw [e4]
    by_cases h2 : (fE f : Int) < e + ((bl r - fP f : Nat) : Int) + (bl (cutN r (bl r - fP f) s m neg) : Int) - 1
    · rw [if_pos h2, if_pos h2]
    · rw [if_neg h2, if_neg h2]
      by_cases h3 : e + ((bl r - fP f : Nat) : Int) + (bl (cutN r (bl r - fP f) s m neg) : Int) - 1 < 1 - (fE f : Int)
      · rw [if_pos h3, if_pos h3]
        have hlow := (cutN_range r (fP f) s m neg (by omega) (by omega)).1
        have hb1 : fP f ≤ bl (cutN r (bl r - fP f) s m neg) := by
          rcases Nat.lt_or_ge (bl (cutN r (bl r - fP f) s m neg)) (fP f) with h | h
          · have := bl_le.1 (show bl (cutN r (bl r - fP f) s m neg) ≤ fP f - 1 by omega)
            omega
          · exact h
        rw [if_neg (show ¬ (1 - (fE f : Int) - (fP f : Int) + 1 - e ≤ 0) by omega)]
        dsimp only
        have e5 : (2 - (fE f : Int) - (fP f : Int) - (e - (t : Int))).toNat = (1 - (fE f : Int) - (fP f : Int) + 1 - e).toNat + t := by omega
        have e6 : cutN (r * 2 ^ t) ((1 - (fE f : Int) - (fP f : Int) + 1 - e).toNat + t) s m neg = cutN r (1 - (fE f : Int) - (fP f : Int) + 1 - e).toNat s m neg := by
          cases s
          · rw [cutN_scale]
          · obtain rfl := hs rfl; rw [Nat.pow_zero, Nat.mul_one, Nat.add_zero]
        have e7 : restN (r * 2 ^ t) ((1 - (fE f : Int) - (fP f : Int) + 1 - e).toNat + t) s = restN r (1 - (fE f : Int) - (fP f : Int) + 1 - e).toNat s := by
          cases s
          · rw [rest_scale]
          · obtain rfl := hs rfl; rw [Nat.pow_zero, Nat.mul_one, Nat.add_zero]
        rw [e5, e6, e7]
        congr 1
        by_cases h5 : restN r (1 - (fE f : Int) - (fP f : Int) + 1 - e).toNat s = 0
        · rw [if_pos h5]; simp [h5]
        · rw [if_neg h5]; simp [h5]
      · rw [if_neg h3, if_neg h3]
        congr 1
        by_cases h5 : restN r (bl r - fP f) s = 0
        · rw [if_pos h5]; simp [h5]
        · rw [if_neg h5]; simp [h5]

end Go.Proofs.YtefpoconpeggpaaGreatDoor.Rd

namespace Go.Proofs.YtefpoconpeggpaaGreatDoor.Rd
open Go Go.RowKit
set_option linter.unusedVariables false
set_option linter.unusedSimpArgs false
set_option maxRecDepth 100000

/-- A word made of a sign, a field, a fraction. -/
def mkW (f : Nat) (ng : Bool) (fld fr : Nat) : Nat := fr + fld * 2 ^ (fP f - 1) + (if ng then 2 ^ (fB f - 1) else 0)

set_option maxHeartbeats 4000000 in
theorem class_Make (f : Nat) (h1 : 1 ≤ f) (h4 : f ≤ 4) (ng : Bool) (fld fr : Nat) (hf : fld ≤ 2 * fE f + 1) (hfr : fr < 2 ^ (fP f - 1)) (w0 : World) (hF : FmtIn w0) :
    GivesAt Tryz.prog 123 #[.int .i64 f, .bool ng, .int .i64 fld, W fr] (.tuple #[Wd (mkW f ng fld fr), .bool true]) w0 := by
  have hst := St.start [] w0
  have hk := Lib.hid (fun w (k : Keeps [] w0 w) => hF.keep k (by simp))
  have hof := fun w h => format_Of f h1 h4 w h
  have hP := fP_in f
  have hE := fE_in f
  have hB := fB_in f
  have hpM : 2 ^ (fP f - 1) < M := small_M2 _ (by omega)
  have hfM : fr < M := Nat.lt_trans hfr hpM
  have hlen := wide_Len fr hfM
  have hbl : bl fr ≤ fP f - 1 := bl_le.2 hfr
  have hfB : fld < B := by rw [B_val]; omega
  have hwo := of_u64 fld hfB
  have h1' := Lib.hid (wc_1 fld hfB)
  have hx : fr + fld * 2 ^ (fP f - 1) < 2 ^ (fB f - 1) := by
    have e : 2 ^ (fB f - 1) = 2 ^ fK f * 2 ^ (fP f - 1) := by rw [← Nat.pow_add, fBPK]; congr 1; omega
    rw [e, ← fE_pow]
    have : (fld + 1) * 2 ^ (fP f - 1) ≤ (2 * fE f + 2) * 2 ^ (fP f - 1) := Nat.mul_le_mul_right _ (by omega)
    rw [Nat.add_mul, Nat.one_mul] at this
    omega
  have hbM : 2 ^ (fB f - 1) < M := small_M2 _ (by omega)
  have hshl := wide_Shl fld (fP f - 1 : Nat) (Nat.lt_trans hfB (small_M2 64 (by omega)))
  rw [clampN_nat _ (by omega), Nat.mod_eq_of_lt (show fld * 2 ^ (fP f - 1) < M by omega)] at hshl
  have hadd := wide_Add fr (fld * 2 ^ (fP f - 1)) hfM (by omega)
  rw [Nat.mod_eq_of_lt (show fr + fld * 2 ^ (fP f - 1) < M by omega)] at hadd
  have hpw := wide_Power ((fB f : Int) - 1)
  rw [show pow2 ((fB f : Int) - 1) = 2 ^ (fB f - 1) by unfold pow2; rw [if_pos (by omega)]; congr 1; omega] at hpw
  have h2 : 2 ^ (fB f - 1) + 2 ^ (fB f - 1) ≤ M2 := by
    have a : 2 ^ fB f ≤ 2 ^ 128 := Nat.pow_le_pow_right (by omega) hB.2
    have b : 2 ^ fB f = 2 ^ (fB f - 1) + 2 ^ (fB f - 1) := by
      obtain ⟨p, hp⟩ : ∃ p, fB f = p + 1 := ⟨fB f - 1, by omega⟩
      rw [hp, Nat.add_sub_cancel, Nat.pow_succ]; omega
    have c : M2 = 2 ^ 128 := by decide
    omega
  have h2M : M2 ≤ M := by rw [M_eq]; exact Nat.pow_le_pow_right B_pos (by omega)
  have hadd2 := wide_Add (fr + fld * 2 ^ (fP f - 1)) (2 ^ (fB f - 1)) (by omega) hbM
  rw [Nat.mod_eq_of_lt (show fr + fld * 2 ^ (fP f - 1) + 2 ^ (fB f - 1) < M by omega)] at hadd2
  have hlow1 := wide_Low (fr + fld * 2 ^ (fP f - 1))
  rw [Nat.mod_eq_of_lt (by omega)] at hlow1
  have hlow2 := wide_Low (fr + fld * 2 ^ (fP f - 1) + 2 ^ (fB f - 1))
  rw [Nat.mod_eq_of_lt (by omega)] at hlow2
  rw [show ((fP f - 1 : Nat) : Int) = (fP f : Int) - 1 by omega] at hshl
  have hW1 : IntKind.i64.wrap ((fP f : Int) - 1) = (fP f : Int) - 1 := by rw [IntKind.wrap_i64]; omega
  have hW2 : IntKind.i64.wrap ((fB f : Int) - 1) = (fB f : Int) - 1 := by rw [IntKind.wrap_i64]; omega
  have hW3 : IntKind.i64.wrap (2 * (fE f : Int)) = 2 * (fE f : Int) := by rw [IntKind.wrap_i64]; omega
  have hW4 : IntKind.i64.wrap (2 * (fE f : Int) + 1) = 2 * (fE f : Int) + 1 := by rw [IntKind.wrap_i64]; omega
  have hW5 : IntKind.u64.wrap (fld : Int) = (fld : Int) := by rw [u64_wrap, Nat.mod_eq_of_lt hfB]
  have Q1 : decide ((fld : Int) < 0) = false := decide_eq_false (by omega)
  have Q2 : decide (2 * (fE f : Int) + 1 < (fld : Int)) = false := decide_eq_false (by omega)
  have Q3 : decide ((fP f : Int) - 1 < (bl fr : Int)) = false := decide_eq_false (by omega)
  have z1 := fmC_size f
  have z2 := fmC_one f
  have g0 : (fmC f)[0]? = some (.int .i64 (fB f : Nat)) := rfl
  have g1 : (fmC f)[0 + 1]? = some (.int .i64 (fP f : Nat)) := rfl
  have g2 : (fmC f)[0 + 2]? = some (.int .i64 (fE f : Nat)) := rfl
  unfold mkW
  clear hF hf hfr hbl hfB hx hbM h2 h2M hpM hfM
  obtain ⟨x2, hx2⟩ : ∃ x2, fr + fld * 2 ^ (fP f - 1) + 2 ^ (fB f - 1) = x2 := ⟨_, rfl⟩
  rw [hx2] at hadd2 hlow2
  generalize fr + fld * 2 ^ (fP f - 1) = x1 at *
  generalize fld * 2 ^ (fP f - 1) = x0 at *
  generalize 2 ^ (fB f - 1) = pb' at *
  generalize bl fr = k at *
  generalize fmC f = cs at *
  generalize fP f = p at *
  generalize fE f = E at *
  generalize fB f = bb at *
  cases ng
  · rw [if_neg (by simp), Nat.add_zero]
    clear hx2
    go_enter Tryz.func123, Tryz.ntmps123
    go_wp2_with ((first | (refine kg gf70 hst (fun w hst => hof w (hk.out w hst.keeps)) rfl rfl rfl rfl ?_; clear hst; intro w hst) | (refine kb 7 hst rfl rfl ?_; clear hst; intro b7 w hb7 hst) | (refine ka 8 hst tz24 rfl rfl ?_; clear hst; intro b8 w hb8 hst) | (refine ka 10 hst tz128 rfl rfl ?_; clear hst; intro b10 w hb10 hst) | (refine kt hst ta128 rfl rfl ?_; clear hst; intro w hst)); try simp only [pz, pn, sz, sc])
    refine wp_region_T 22  hst (by kernel_rfl) ?_; clear hst; intro w hst; (try simp only [List.length_cons, List.length_nil, Nat.reduceAdd, Array.replicate_succ, Array.replicate_zero, List.push_toArray, List.nil_append, List.cons_append])
    refine r0 0 ?_; simp only [pz, pn, sz, sc, hW1, hW3, hW4, Q1, Q2, Q3]
    refine r0 1 ?_; simp only [pz, pn, sz, sc, hW1, hW3, hW4, Q1, Q2, Q3]
    refine r0 2 ?_; simp only [pz, pn, sz, sc, hW1, hW3, hW4, Q1, Q2, Q3]
    refine r0 3 ?_; simp only [pz, pn, sz, sc, hW1, hW3, hW4, Q1, Q2, Q3]
    refine r0 4 ?_; simp only [pz, pn, sz, sc, hW1, hW3, hW4, Q1, Q2, Q3]
    refine r0 5 ?_; simp only [pz, pn, sz, sc, hW1, hW3, hW4, Q1, Q2, Q3]
    refine r0 6 ?_; simp only [pz, pn, sz, sc, hW1, hW3, hW4, Q1, Q2, Q3]
    refine r0 7 ?_; simp only [pz, pn, sz, sc, hW1, hW3, hW4, Q1, Q2, Q3]
    refine r0 8 ?_; simp only [pz, pn, sz, sc, hW1, hW3, hW4, Q1, Q2, Q3]
    refine rl 9 rfl ?_ (ylC tc3); simp only [pz, pn, sz, sc, hW1, hW3, hW4, Q1, Q2, Q3]
    refine r0 10 ?_; simp only [pz, pn, sz, sc, hW1, hW3, hW4, Q1, Q2, Q3]
    refine r0 11 ?_; simp only [pz, pn, sz, sc, hW1, hW3, hW4, Q1, Q2, Q3]
    refine r0 12 ?_; simp only [pz, pn, sz, sc, hW1, hW3, hW4, Q1, Q2, Q3]
    refine r0 13 ?_; simp only [pz, pn, sz, sc, hW1, hW3, hW4, Q1, Q2, Q3]
    refine r0 14 ?_; simp only [pz, pn, sz, sc, hW1, hW3, hW4, Q1, Q2, Q3]
    refine r0 17 ?_; simp only [pz, pn, sz, sc, hW1, hW3, hW4, Q1, Q2, Q3]
    refine rl 15 rfl ?_ (by first | exact ylA ta44 | exact ylM ta44); simp only [pz, pn, sz, sc, hW1, hW3, hW4, Q1, Q2, Q3]
    refine rl 18 rfl ?_ (ylC tc3); simp only [pz, pn, sz, sc, hW1, hW3, hW4, Q1, Q2, Q3]
    refine r0 19 ?_; simp only [pz, pn, sz, sc, hW1, hW3, hW4, Q1, Q2, Q3]
    refine r1 16 ?_; (try refine wl_guard (by rfl) ?_); (refine kf gf47 hst (hlen) rfl rfl rfl rfl ?_; clear hst; intro w hst); (try simp only [pz, pn, sz, sc, hW1, hW3, hW4, Q1, Q2, Q3]); refine re ?_
    refine r0 20 ?_; simp only [pz, pn, sz, sc, hW1, hW3, hW4, Q1, Q2, Q3]
    refine r0 21 ?_; simp only [pz, pn, sz, sc, hW1, hW3, hW4, Q1, Q2, Q3]
    refine rd_ ?_
    go_wp2_with fail
    refine wp_region_T 14  hst (by kernel_rfl) ?_; clear hst; intro w hst; (try simp only [List.length_cons, List.length_nil, Nat.reduceAdd, Array.replicate_succ, Array.replicate_zero, List.push_toArray, List.nil_append, List.cons_append])
    refine r0 1 ?_; simp only [pz, pn, sz, sc, hW1, hW5]
    refine r0 2 ?_; simp only [pz, pn, sz, sc, hW1, hW5]
    refine r0 5 ?_; simp only [pz, pn, sz, sc, hW1, hW5]
    refine rl 0 rfl ?_ (by first | exact ylA ta44 | exact ylM ta44); simp only [pz, pn, sz, sc, hW1, hW5]
    refine rl 6 rfl ?_ (ylC tc3); simp only [pz, pn, sz, sc, hW1, hW5]
    refine r0 7 ?_; simp only [pz, pn, sz, sc, hW1, hW5]
    refine r2 3 13 ?_ ?_
    (refine wl_slice1 (o := ⟨some 46, _, _, _, _, _⟩) hst ts123 te22 rfl rfl (by (simp only [eval_lit, eval_k, eval_f, eval_g, List.getD_cons_succ, List.getD_cons_zero]) <;> rfl) (by rfl) ?_; clear hst; intro b46 w hb46 hst); (try simp only [pz, pn, sz, sc, hW1, hW5]); refine re ?_
    refine r2 4 13 ?_ ?_
    (refine kg gf131 hst (fun w hst => hwo _ w (by rw [← h1'.out]; exact hst.own _ _ (by repeat (first | exact List.Mem.head _ | refine List.Mem.tail _ ?_)))) rfl rfl rfl rfl ?_; clear hst; intro w hst); (try simp only [pz, pn, sz, sc, hW1, hW5]); refine re ?_
    refine r2 8 13 ?_ ?_
    (refine kf gf48 hst (hshl) rfl rfl rfl rfl ?_; clear hst; intro w hst); (try simp only [pz, pn, sz, sc, hW1, hW5]); refine re ?_
    refine r2 9 13 ?_ ?_
    (refine kf gf104 hst (hadd) rfl rfl rfl rfl ?_; clear hst; intro w hst); (try simp only [pz, pn, sz, sc, hW1, hW5]); refine re ?_
    refine r0 10 ?_; simp only [pz, pn, sz, sc, hW1, hW5]
    refine r0 11 ?_; simp only [pz, pn, sz, sc, hW1, hW5]
    refine r0 12 ?_; simp only [pz, pn, sz, sc, hW1, hW5]
    refine r1 13 ?_; (refine ka 12 hst tz44 rfl rfl ?_; clear hst; intro b12 w hb12 hst); (try simp only [pz, pn, sz, sc, hW1, hW5]); refine re ?_
    refine r1 14 ?_; (refine kt hst ta44 rfl rfl ?_; clear hst; intro w hst); (try simp only [pz, pn, sz, sc, hW1, hW5]); refine re ?_
    refine r0 15 ?_; simp only [pz, pn, sz, sc, hW1, hW5]
    refine rd_ ?_
    rotate_left 1
    (refine ka 12 hst tz44 rfl rfl ?_; clear hst; intro b12 w hb12 hst); (try simp only [pz, pn, sz, sc, hW1, hW5]); refine re ?_
    refine r1 9 ?_; (refine kf gf104 hst (hadd) rfl rfl rfl rfl ?_; clear hst; intro w hst); (try simp only [pz, pn, sz, sc, hW1, hW5]); refine re ?_
    refine r0 10 ?_; simp only [pz, pn, sz, sc, hW1, hW5]
    refine r0 11 ?_; simp only [pz, pn, sz, sc, hW1, hW5]
    refine r0 12 ?_; simp only [pz, pn, sz, sc, hW1, hW5]
    refine r1 14 ?_; (refine kt hst ta44 rfl rfl ?_; clear hst; intro w hst); (try simp only [pz, pn, sz, sc, hW1, hW5]); refine re ?_
    refine r0 15 ?_; simp only [pz, pn, sz, sc, hW1, hW5]
    refine rd_ ?_
    rotate_right 1
    rotate_left 2
    (refine ka 12 hst tz44 rfl rfl ?_; clear hst; intro b12 w hb12 hst); (try simp only [pz, pn, sz, sc, hW1, hW5]); refine re ?_
    refine r1 8 ?_; (refine kf gf48 hst (hshl) rfl rfl rfl rfl ?_; clear hst; intro w hst); (try simp only [pz, pn, sz, sc, hW1, hW5]); refine re ?_
    refine r1 9 ?_; (refine kf gf104 hst (hadd) rfl rfl rfl rfl ?_; clear hst; intro w hst); (try simp only [pz, pn, sz, sc, hW1, hW5]); refine re ?_
    refine r0 10 ?_; simp only [pz, pn, sz, sc, hW1, hW5]
    refine r0 11 ?_; simp only [pz, pn, sz, sc, hW1, hW5]
    refine r0 12 ?_; simp only [pz, pn, sz, sc, hW1, hW5]
    refine r1 14 ?_; (refine kt hst ta44 rfl rfl ?_; clear hst; intro w hst); (try simp only [pz, pn, sz, sc, hW1, hW5]); refine re ?_
    refine r0 15 ?_; simp only [pz, pn, sz, sc, hW1, hW5]
    refine rd_ ?_
    rotate_right 2
    rotate_left 3
    (refine ka 12 hst tz44 rfl rfl ?_; clear hst; intro b12 w hb12 hst); (try simp only [pz, pn, sz, sc, hW1, hW5]); refine re ?_
    refine r1 4 ?_; (refine kg gf131 hst (fun w hst => hwo _ w (by rw [← h1'.out]; exact hst.own _ _ (by repeat (first | exact List.Mem.head _ | refine List.Mem.tail _ ?_)))) rfl rfl rfl rfl ?_; clear hst; intro w hst); (try simp only [pz, pn, sz, sc, hW1, hW5]); refine re ?_
    refine r1 8 ?_; (refine kf gf48 hst (hshl) rfl rfl rfl rfl ?_; clear hst; intro w hst); (try simp only [pz, pn, sz, sc, hW1, hW5]); refine re ?_
    refine r1 9 ?_; (refine kf gf104 hst (hadd) rfl rfl rfl rfl ?_; clear hst; intro w hst); (try simp only [pz, pn, sz, sc, hW1, hW5]); refine re ?_
    refine r0 10 ?_; simp only [pz, pn, sz, sc, hW1, hW5]
    refine r0 11 ?_; simp only [pz, pn, sz, sc, hW1, hW5]
    refine r0 12 ?_; simp only [pz, pn, sz, sc, hW1, hW5]
    refine r1 14 ?_; (refine kt hst ta44 rfl rfl ?_; clear hst; intro w hst); (try simp only [pz, pn, sz, sc, hW1, hW5]); refine re ?_
    refine r0 15 ?_; simp only [pz, pn, sz, sc, hW1, hW5]
    refine rd_ ?_
    rotate_right 3
    rotate_left 4
    (refine ka 12 hst tz44 rfl rfl ?_; clear hst; intro b12 w hb12 hst); (try simp only [pz, pn, sz, sc, hW1, hW5]); refine re ?_
    refine r1 3 ?_; (refine wl_slice1 (o := ⟨some 46, _, _, _, _, _⟩) hst ts123 te22 rfl rfl (by (simp only [eval_lit, eval_k, eval_f, eval_g, List.getD_cons_succ, List.getD_cons_zero]) <;> rfl) (by rfl) ?_; clear hst; intro b46 w hb46 hst); (try simp only [pz, pn, sz, sc, hW1, hW5]); refine re ?_
    refine r1 4 ?_; (refine kg gf131 hst (fun w hst => hwo _ w (by rw [← h1'.out]; exact hst.own _ _ (by repeat (first | exact List.Mem.head _ | refine List.Mem.tail _ ?_)))) rfl rfl rfl rfl ?_; clear hst; intro w hst); (try simp only [pz, pn, sz, sc, hW1, hW5]); refine re ?_
    refine r1 8 ?_; (refine kf gf48 hst (hshl) rfl rfl rfl rfl ?_; clear hst; intro w hst); (try simp only [pz, pn, sz, sc, hW1, hW5]); refine re ?_
    refine r1 9 ?_; (refine kf gf104 hst (hadd) rfl rfl rfl rfl ?_; clear hst; intro w hst); (try simp only [pz, pn, sz, sc, hW1, hW5]); refine re ?_
    refine r0 10 ?_; simp only [pz, pn, sz, sc, hW1, hW5]
    refine r0 11 ?_; simp only [pz, pn, sz, sc, hW1, hW5]
    refine r0 12 ?_; simp only [pz, pn, sz, sc, hW1, hW5]
    refine r1 14 ?_; (refine kt hst ta44 rfl rfl ?_; clear hst; intro w hst); (try simp only [pz, pn, sz, sc, hW1, hW5]); refine re ?_
    refine r0 15 ?_; simp only [pz, pn, sz, sc, hW1, hW5]
    refine rd_ ?_
    rotate_right 4
    all_goals
      go_wp2_with ((first | (refine kf gf139 hst (hlow1) rfl rfl rfl rfl ?_; clear hst; intro w hst) | (refine kl hst ta44 rfl ?_) | (refine kt hst ta24 rfl rfl ?_; clear hst; intro w hst)); try simp only [pz, pn, sz, sc])
      refine bp_ct rfl rfl (la hst ta24) (by rfl) ⟨?_, hst.keeps⟩
      rfl
  · rw [if_pos rfl, hx2]
    clear hx2
    go_enter Tryz.func123, Tryz.ntmps123
    go_wp2_with ((first | (refine kg gf70 hst (fun w hst => hof w (hk.out w hst.keeps)) rfl rfl rfl rfl ?_; clear hst; intro w hst) | (refine kb 7 hst rfl rfl ?_; clear hst; intro b7 w hb7 hst) | (refine ka 8 hst tz24 rfl rfl ?_; clear hst; intro b8 w hb8 hst) | (refine ka 10 hst tz128 rfl rfl ?_; clear hst; intro b10 w hb10 hst) | (refine kt hst ta128 rfl rfl ?_; clear hst; intro w hst)); try simp only [pz, pn, sz, sc])
    refine wp_region_T 22  hst (by kernel_rfl) ?_; clear hst; intro w hst; (try simp only [List.length_cons, List.length_nil, Nat.reduceAdd, Array.replicate_succ, Array.replicate_zero, List.push_toArray, List.nil_append, List.cons_append])
    refine r0 0 ?_; simp only [pz, pn, sz, sc, hW1, hW3, hW4, Q1, Q2, Q3]
    refine r0 1 ?_; simp only [pz, pn, sz, sc, hW1, hW3, hW4, Q1, Q2, Q3]
    refine r0 2 ?_; simp only [pz, pn, sz, sc, hW1, hW3, hW4, Q1, Q2, Q3]
    refine r0 3 ?_; simp only [pz, pn, sz, sc, hW1, hW3, hW4, Q1, Q2, Q3]
    refine r0 4 ?_; simp only [pz, pn, sz, sc, hW1, hW3, hW4, Q1, Q2, Q3]
    refine r0 5 ?_; simp only [pz, pn, sz, sc, hW1, hW3, hW4, Q1, Q2, Q3]
    refine r0 6 ?_; simp only [pz, pn, sz, sc, hW1, hW3, hW4, Q1, Q2, Q3]
    refine r0 7 ?_; simp only [pz, pn, sz, sc, hW1, hW3, hW4, Q1, Q2, Q3]
    refine r0 8 ?_; simp only [pz, pn, sz, sc, hW1, hW3, hW4, Q1, Q2, Q3]
    refine rl 9 rfl ?_ (ylC tc3); simp only [pz, pn, sz, sc, hW1, hW3, hW4, Q1, Q2, Q3]
    refine r0 10 ?_; simp only [pz, pn, sz, sc, hW1, hW3, hW4, Q1, Q2, Q3]
    refine r0 11 ?_; simp only [pz, pn, sz, sc, hW1, hW3, hW4, Q1, Q2, Q3]
    refine r0 12 ?_; simp only [pz, pn, sz, sc, hW1, hW3, hW4, Q1, Q2, Q3]
    refine r0 13 ?_; simp only [pz, pn, sz, sc, hW1, hW3, hW4, Q1, Q2, Q3]
    refine r0 14 ?_; simp only [pz, pn, sz, sc, hW1, hW3, hW4, Q1, Q2, Q3]
    refine r0 17 ?_; simp only [pz, pn, sz, sc, hW1, hW3, hW4, Q1, Q2, Q3]
    refine rl 15 rfl ?_ (by first | exact ylA ta44 | exact ylM ta44); simp only [pz, pn, sz, sc, hW1, hW3, hW4, Q1, Q2, Q3]
    refine rl 18 rfl ?_ (ylC tc3); simp only [pz, pn, sz, sc, hW1, hW3, hW4, Q1, Q2, Q3]
    refine r0 19 ?_; simp only [pz, pn, sz, sc, hW1, hW3, hW4, Q1, Q2, Q3]
    refine r1 16 ?_; (try refine wl_guard (by rfl) ?_); (refine kf gf47 hst (hlen) rfl rfl rfl rfl ?_; clear hst; intro w hst); (try simp only [pz, pn, sz, sc, hW1, hW3, hW4, Q1, Q2, Q3]); refine re ?_
    refine r0 20 ?_; simp only [pz, pn, sz, sc, hW1, hW3, hW4, Q1, Q2, Q3]
    refine r0 21 ?_; simp only [pz, pn, sz, sc, hW1, hW3, hW4, Q1, Q2, Q3]
    refine rd_ ?_
    go_wp2_with fail
    refine wp_region_T 14  hst (by kernel_rfl) ?_; clear hst; intro w hst; (try simp only [List.length_cons, List.length_nil, Nat.reduceAdd, Array.replicate_succ, Array.replicate_zero, List.push_toArray, List.nil_append, List.cons_append])
    refine r0 1 ?_; simp only [pz, pn, sz, sc, hW1, hW5]
    refine r0 2 ?_; simp only [pz, pn, sz, sc, hW1, hW5]
    refine r0 5 ?_; simp only [pz, pn, sz, sc, hW1, hW5]
    refine rl 0 rfl ?_ (by first | exact ylA ta44 | exact ylM ta44); simp only [pz, pn, sz, sc, hW1, hW5]
    refine rl 6 rfl ?_ (ylC tc3); simp only [pz, pn, sz, sc, hW1, hW5]
    refine r0 7 ?_; simp only [pz, pn, sz, sc, hW1, hW5]
    refine r2 3 13 ?_ ?_
    (refine wl_slice1 (o := ⟨some 46, _, _, _, _, _⟩) hst ts123 te22 rfl rfl (by (simp only [eval_lit, eval_k, eval_f, eval_g, List.getD_cons_succ, List.getD_cons_zero]) <;> rfl) (by rfl) ?_; clear hst; intro b46 w hb46 hst); (try simp only [pz, pn, sz, sc, hW1, hW5]); refine re ?_
    refine r2 4 13 ?_ ?_
    (refine kg gf131 hst (fun w hst => hwo _ w (by rw [← h1'.out]; exact hst.own _ _ (by repeat (first | exact List.Mem.head _ | refine List.Mem.tail _ ?_)))) rfl rfl rfl rfl ?_; clear hst; intro w hst); (try simp only [pz, pn, sz, sc, hW1, hW5]); refine re ?_
    refine r2 8 13 ?_ ?_
    (refine kf gf48 hst (hshl) rfl rfl rfl rfl ?_; clear hst; intro w hst); (try simp only [pz, pn, sz, sc, hW1, hW5]); refine re ?_
    refine r2 9 13 ?_ ?_
    (refine kf gf104 hst (hadd) rfl rfl rfl rfl ?_; clear hst; intro w hst); (try simp only [pz, pn, sz, sc, hW1, hW5]); refine re ?_
    refine r0 10 ?_; simp only [pz, pn, sz, sc, hW1, hW5]
    refine r0 11 ?_; simp only [pz, pn, sz, sc, hW1, hW5]
    refine r0 12 ?_; simp only [pz, pn, sz, sc, hW1, hW5]
    refine r1 13 ?_; (refine ka 12 hst tz44 rfl rfl ?_; clear hst; intro b12 w hb12 hst); (try simp only [pz, pn, sz, sc, hW1, hW5]); refine re ?_
    refine r1 14 ?_; (refine kt hst ta44 rfl rfl ?_; clear hst; intro w hst); (try simp only [pz, pn, sz, sc, hW1, hW5]); refine re ?_
    refine r0 15 ?_; simp only [pz, pn, sz, sc, hW1, hW5]
    refine rd_ ?_
    rotate_left 1
    (refine ka 12 hst tz44 rfl rfl ?_; clear hst; intro b12 w hb12 hst); (try simp only [pz, pn, sz, sc, hW1, hW5]); refine re ?_
    refine r1 9 ?_; (refine kf gf104 hst (hadd) rfl rfl rfl rfl ?_; clear hst; intro w hst); (try simp only [pz, pn, sz, sc, hW1, hW5]); refine re ?_
    refine r0 10 ?_; simp only [pz, pn, sz, sc, hW1, hW5]
    refine r0 11 ?_; simp only [pz, pn, sz, sc, hW1, hW5]
    refine r0 12 ?_; simp only [pz, pn, sz, sc, hW1, hW5]
    refine r1 14 ?_; (refine kt hst ta44 rfl rfl ?_; clear hst; intro w hst); (try simp only [pz, pn, sz, sc, hW1, hW5]); refine re ?_
    refine r0 15 ?_; simp only [pz, pn, sz, sc, hW1, hW5]
    refine rd_ ?_
    rotate_right 1
    rotate_left 2
    (refine ka 12 hst tz44 rfl rfl ?_; clear hst; intro b12 w hb12 hst); (try simp only [pz, pn, sz, sc, hW1, hW5]); refine re ?_
    refine r1 8 ?_; (refine kf gf48 hst (hshl) rfl rfl rfl rfl ?_; clear hst; intro w hst); (try simp only [pz, pn, sz, sc, hW1, hW5]); refine re ?_
    refine r1 9 ?_; (refine kf gf104 hst (hadd) rfl rfl rfl rfl ?_; clear hst; intro w hst); (try simp only [pz, pn, sz, sc, hW1, hW5]); refine re ?_
    refine r0 10 ?_; simp only [pz, pn, sz, sc, hW1, hW5]
    refine r0 11 ?_; simp only [pz, pn, sz, sc, hW1, hW5]
    refine r0 12 ?_; simp only [pz, pn, sz, sc, hW1, hW5]
    refine r1 14 ?_; (refine kt hst ta44 rfl rfl ?_; clear hst; intro w hst); (try simp only [pz, pn, sz, sc, hW1, hW5]); refine re ?_
    refine r0 15 ?_; simp only [pz, pn, sz, sc, hW1, hW5]
    refine rd_ ?_
    rotate_right 2
    rotate_left 3
    (refine ka 12 hst tz44 rfl rfl ?_; clear hst; intro b12 w hb12 hst); (try simp only [pz, pn, sz, sc, hW1, hW5]); refine re ?_
    refine r1 4 ?_; (refine kg gf131 hst (fun w hst => hwo _ w (by rw [← h1'.out]; exact hst.own _ _ (by repeat (first | exact List.Mem.head _ | refine List.Mem.tail _ ?_)))) rfl rfl rfl rfl ?_; clear hst; intro w hst); (try simp only [pz, pn, sz, sc, hW1, hW5]); refine re ?_
    refine r1 8 ?_; (refine kf gf48 hst (hshl) rfl rfl rfl rfl ?_; clear hst; intro w hst); (try simp only [pz, pn, sz, sc, hW1, hW5]); refine re ?_
    refine r1 9 ?_; (refine kf gf104 hst (hadd) rfl rfl rfl rfl ?_; clear hst; intro w hst); (try simp only [pz, pn, sz, sc, hW1, hW5]); refine re ?_
    refine r0 10 ?_; simp only [pz, pn, sz, sc, hW1, hW5]
    refine r0 11 ?_; simp only [pz, pn, sz, sc, hW1, hW5]
    refine r0 12 ?_; simp only [pz, pn, sz, sc, hW1, hW5]
    refine r1 14 ?_; (refine kt hst ta44 rfl rfl ?_; clear hst; intro w hst); (try simp only [pz, pn, sz, sc, hW1, hW5]); refine re ?_
    refine r0 15 ?_; simp only [pz, pn, sz, sc, hW1, hW5]
    refine rd_ ?_
    rotate_right 3
    rotate_left 4
    (refine ka 12 hst tz44 rfl rfl ?_; clear hst; intro b12 w hb12 hst); (try simp only [pz, pn, sz, sc, hW1, hW5]); refine re ?_
    refine r1 3 ?_; (refine wl_slice1 (o := ⟨some 46, _, _, _, _, _⟩) hst ts123 te22 rfl rfl (by (simp only [eval_lit, eval_k, eval_f, eval_g, List.getD_cons_succ, List.getD_cons_zero]) <;> rfl) (by rfl) ?_; clear hst; intro b46 w hb46 hst); (try simp only [pz, pn, sz, sc, hW1, hW5]); refine re ?_
    refine r1 4 ?_; (refine kg gf131 hst (fun w hst => hwo _ w (by rw [← h1'.out]; exact hst.own _ _ (by repeat (first | exact List.Mem.head _ | refine List.Mem.tail _ ?_)))) rfl rfl rfl rfl ?_; clear hst; intro w hst); (try simp only [pz, pn, sz, sc, hW1, hW5]); refine re ?_
    refine r1 8 ?_; (refine kf gf48 hst (hshl) rfl rfl rfl rfl ?_; clear hst; intro w hst); (try simp only [pz, pn, sz, sc, hW1, hW5]); refine re ?_
    refine r1 9 ?_; (refine kf gf104 hst (hadd) rfl rfl rfl rfl ?_; clear hst; intro w hst); (try simp only [pz, pn, sz, sc, hW1, hW5]); refine re ?_
    refine r0 10 ?_; simp only [pz, pn, sz, sc, hW1, hW5]
    refine r0 11 ?_; simp only [pz, pn, sz, sc, hW1, hW5]
    refine r0 12 ?_; simp only [pz, pn, sz, sc, hW1, hW5]
    refine r1 14 ?_; (refine kt hst ta44 rfl rfl ?_; clear hst; intro w hst); (try simp only [pz, pn, sz, sc, hW1, hW5]); refine re ?_
    refine r0 15 ?_; simp only [pz, pn, sz, sc, hW1, hW5]
    refine rd_ ?_
    rotate_right 4
    all_goals
      go_wp2_with fail
      refine wp_region_T 9  hst (by kernel_rfl) ?_; clear hst; intro w hst; (try simp only [List.length_cons, List.length_nil, Nat.reduceAdd, Array.replicate_succ, Array.replicate_zero, List.push_toArray, List.nil_append, List.cons_append])
      refine r0 1 ?_; simp only [pz, pn, sz, sc, hW2]
      refine rl 0 rfl ?_ (by first | exact ylA ta44 | exact ylM ta44); simp only [pz, pn, sz, sc, hW2]
      refine rl 2 rfl ?_ (ylC tc3); simp only [pz, pn, sz, sc, hW2]
      refine r0 3 ?_; simp only [pz, pn, sz, sc, hW2]
      refine r1 4 ?_; (refine kf gf127 hst (hpw) rfl rfl rfl rfl ?_; clear hst; intro w hst); (try simp only [pz, pn, sz, sc, hW2]); refine re ?_
      refine r1 5 ?_; (refine kf gf104 hst (hadd2) rfl rfl rfl rfl ?_; clear hst; intro w hst); (try simp only [pz, pn, sz, sc, hW2]); refine re ?_
      refine r0 6 ?_; simp only [pz, pn, sz, sc, hW2]
      refine r0 7 ?_; simp only [pz, pn, sz, sc, hW2]
      refine r0 8 ?_; simp only [pz, pn, sz, sc, hW2]
      refine r1 9 ?_; (refine kt hst ta44 rfl rfl ?_; clear hst; intro w hst); (try simp only [pz, pn, sz, sc, hW2]); refine re ?_
      refine rd_ ?_
      all_goals
        go_wp2_with ((first | (refine kf gf139 hst (hlow2) rfl rfl rfl rfl ?_; clear hst; intro w hst) | (refine kl hst ta44 rfl ?_) | (refine kt hst ta24 rfl rfl ?_; clear hst; intro w hst)); try simp only [pz, pn, sz, sc])
        refine bp_ct rfl rfl (la hst ta24) (by rfl) ⟨?_, hst.keeps⟩
        rfl

theorem mkW_enc (f : Nat) (ng : Bool) (j s : Nat) : mkW f ng (j + s / 2 ^ (fP f - 1)) (s % 2 ^ (fP f - 1)) = encW f ng j s := by
  unfold mkW encW wEnc
  have := Nat.div_add_mod s (2 ^ (fP f - 1))
  rw [Nat.mul_comm] at this
  rw [Nat.add_mul]
  omega

set_option maxHeartbeats 4000000 in
theorem pack_joined (f : Nat) (h1 : 1 ≤ f) (h4 : f ≤ 4) (ng : Bool) (j s : Nat) (hs : s ≤ 2 ^ fP f) (hj : j + s / 2 ^ (fP f - 1) ≤ 2 * fE f + 1) (w0 : World) (hF : FmtIn w0) :
    GivesAt Tryz.prog 98 #[.int .i64 f, .bool ng, .int .i64 j, W s] (Wd (encW f ng j s)) w0 := by
  have hst := St.start [] w0
  have hk := Lib.hid (fun w (k : Keeps [] w0 w) => hF.keep k (by simp))
  have hof := fun w h => format_Of f h1 h4 w h
  have hP := fP_in f
  have hE := fE_in f
  have hsM : s < M := Nat.lt_of_le_of_lt hs (small_M2 _ (by omega))
  have hmk := fun w h => class_Make f h1 h4 ng (j + s / 2 ^ (fP f - 1)) (s % 2 ^ (fP f - 1)) hj (Nat.mod_lt _ (Nat.pow_pos (by omega))) w h
  rw [mkW_enc] at hmk
  have hle : s / 2 ^ (fP f - 1) * 2 ^ (fP f - 1) ≤ s := Nat.div_mul_le_self _ _
  have hshr := wide_Shr s (fP f - 1 : Nat) hsM
  rw [clampN_nat _ (by omega)] at hshr
  have hshl := wide_Shl (s / 2 ^ (fP f - 1)) (fP f - 1 : Nat) (Nat.lt_of_le_of_lt (Nat.div_le_self _ _) hsM)
  rw [clampN_nat _ (by omega), Nat.mod_eq_of_lt (Nat.lt_of_le_of_lt hle hsM)] at hshl
  have hsub := wide_Sub s (s / 2 ^ (fP f - 1) * 2 ^ (fP f - 1)) hsM (Nat.lt_of_le_of_lt hle hsM)
  have hlow : (s + M - s / 2 ^ (fP f - 1) * 2 ^ (fP f - 1)) % M = s % 2 ^ (fP f - 1) := by
    have hd := Nat.div_add_mod s (2 ^ (fP f - 1))
    rw [Nat.mul_comm] at hd
    rw [show s + M - s / 2 ^ (fP f - 1) * 2 ^ (fP f - 1) = s % 2 ^ (fP f - 1) + M by omega, Nat.add_mod_right, Nat.mod_eq_of_lt (Nat.lt_of_le_of_lt (Nat.mod_le _ _) hsM)]
  rw [hlow] at hsub
  rw [show ((fP f - 1 : Nat) : Int) = (fP f : Int) - 1 by omega] at hshr hshl
  have hcl : s / 2 ^ (fP f - 1) < 65536 := by omega
  have hlb : lb (s / 2 ^ (fP f - 1)) 0 = s / 2 ^ (fP f - 1) := by rw [lb_zero, Nat.mod_eq_of_lt (by rw [B_val]; omega)]
  have hjl : j < 65536 := by omega
  rw [Int.natCast_add] at hmk
  have hW1 : IntKind.i64.wrap ((fP f : Int) - 1) = (fP f : Int) - 1 := by rw [IntKind.wrap_i64]; omega
  have z1 := fmC_size f
  have z2 := fmC_one f
  have g1 : (fmC f)[0 + 1]? = some (.int .i64 (fP f : Nat)) := rfl
  clear hF hs hj hle hlow hsM
  generalize s / 2 ^ (fP f - 1) * 2 ^ (fP f - 1) = s2 at *
  generalize s / 2 ^ (fP f - 1) = c at *
  generalize s % 2 ^ (fP f - 1) = fr at *
  generalize encW f ng j s = res at *
  generalize fmC f = cs at *
  generalize fP f = p at *
  go_enter Tryz.func98, Tryz.ntmps98
  go_wp2_with ((first | (refine kg gf70 hst (fun w hst => hof w (hk.out w hst.keeps)) rfl rfl rfl rfl ?_; clear hst; intro w hst) | (refine kf gf87 hst (hshr) rfl rfl rfl rfl ?_; clear hst; intro w hst) | (refine kb 7 hst rfl rfl ?_; clear hst; intro b7 w hb7 hst) | (refine ka 8 hst tz24 rfl rfl ?_; clear hst; intro b8 w hb8 hst) | (refine ka 9 hst tz128 rfl rfl ?_; clear hst; intro b9 w hb9 hst) | (refine kt hst ta128 rfl rfl ?_; clear hst; intro w hst) | (refine kl hst ta44 rfl ?_) | (refine kc hst tc3 rfl ?_) | (refine ka 11 hst tz44 rfl rfl ?_; clear hst; intro b11 w hb11 hst) | (refine kt hst ta44 rfl rfl ?_; clear hst; intro w hst)); try simp only [pz, pn, sz, sc])
  refine wp_region_T 11  hst (by kernel_rfl) ?_; clear hst; intro w hst; (try simp only [List.length_cons, List.length_nil, Nat.reduceAdd, Array.replicate_succ, Array.replicate_zero, List.push_toArray, List.nil_append, List.cons_append])
  refine r0 2 ?_; simp only [pz, pn, sz, sc, hW1]
  refine rl 0 rfl ?_ (by first | exact ylA ta44 | exact ylM ta44); simp only [pz, pn, sz, sc, hW1]
  refine rl 1 rfl ?_ (by first | exact ylA ta44 | exact ylM ta44); simp only [pz, pn, sz, sc, hW1]
  refine rl 3 rfl ?_ (ylC tc3); simp only [pz, pn, sz, sc, hW1]
  refine r0 4 ?_; simp only [pz, pn, sz, sc, hW1]
  refine r2 5 10 ?_ ?_
  (refine kf gf48 hst (hshl) rfl rfl rfl rfl ?_; clear hst; intro w hst); (try simp only [pz, pn, sz, sc, hW1]); refine re ?_
  refine r2 6 10 ?_ ?_
  (refine kf gf122 hst (hsub) rfl rfl rfl rfl ?_; clear hst; intro w hst); (try simp only [pz, pn, sz, sc, hW1]); refine re ?_
  refine r0 7 ?_; simp only [pz, pn, sz, sc, hW1]
  refine r0 8 ?_; simp only [pz, pn, sz, sc, hW1]
  refine r0 9 ?_; simp only [pz, pn, sz, sc, hW1]
  refine r1 10 ?_; (refine ka 13 hst tz44 rfl rfl ?_; clear hst; intro b13 w hb13 hst); (try simp only [pz, pn, sz, sc, hW1]); refine re ?_
  refine r1 11 ?_; (refine kt hst ta44 rfl rfl ?_; clear hst; intro w hst); (try simp only [pz, pn, sz, sc, hW1]); refine re ?_
  refine r0 12 ?_; simp only [pz, pn, sz, sc, hW1]
  refine rd_ ?_
  rotate_left 1
  (refine ka 13 hst tz44 rfl rfl ?_; clear hst; intro b13 w hb13 hst); (try simp only [pz, pn, sz, sc, hW1]); refine re ?_
  refine r1 6 ?_; (refine kf gf122 hst (hsub) rfl rfl rfl rfl ?_; clear hst; intro w hst); (try simp only [pz, pn, sz, sc, hW1]); refine re ?_
  refine r0 7 ?_; simp only [pz, pn, sz, sc, hW1]
  refine r0 8 ?_; simp only [pz, pn, sz, sc, hW1]
  refine r0 9 ?_; simp only [pz, pn, sz, sc, hW1]
  refine r1 11 ?_; (refine kt hst ta44 rfl rfl ?_; clear hst; intro w hst); (try simp only [pz, pn, sz, sc, hW1]); refine re ?_
  refine r0 12 ?_; simp only [pz, pn, sz, sc, hW1]
  refine rd_ ?_
  rotate_right 1
  rotate_left 2
  (refine ka 13 hst tz44 rfl rfl ?_; clear hst; intro b13 w hb13 hst); (try simp only [pz, pn, sz, sc, hW1]); refine re ?_
  refine r1 5 ?_; (refine kf gf48 hst (hshl) rfl rfl rfl rfl ?_; clear hst; intro w hst); (try simp only [pz, pn, sz, sc, hW1]); refine re ?_
  refine r1 6 ?_; (refine kf gf122 hst (hsub) rfl rfl rfl rfl ?_; clear hst; intro w hst); (try simp only [pz, pn, sz, sc, hW1]); refine re ?_
  refine r0 7 ?_; simp only [pz, pn, sz, sc, hW1]
  refine r0 8 ?_; simp only [pz, pn, sz, sc, hW1]
  refine r0 9 ?_; simp only [pz, pn, sz, sc, hW1]
  refine r1 11 ?_; (refine kt hst ta44 rfl rfl ?_; clear hst; intro w hst); (try simp only [pz, pn, sz, sc, hW1]); refine re ?_
  refine r0 12 ?_; simp only [pz, pn, sz, sc, hW1]
  refine rd_ ?_
  rotate_right 2
  all_goals
    go_wp2_with ((first | (refine kg gf123 hst (fun w hst => hmk w (hk.out w hst.keeps)) rfl rfl rfl rfl ?_; clear hst; intro w hst) | (refine kl hst ta44 rfl ?_) | (refine kc hst tc22 rfl ?_) | (refine ka 15 hst tz24 rfl rfl ?_; clear hst; intro b15 w hb15 hst) | (refine kt hst ta24 rfl rfl ?_; clear hst; intro w hst) | (refine kl hst ta24 rfl ?_)); try simp only [pz, pn, sz, sc])
    refine bp_c rfl rfl (la hst ta24) ⟨?_, hst.keeps⟩
    rfl

end Go.Proofs.YtefpoconpeggpaaGreatDoor.Rd

namespace Go.Proofs.YtefpoconpeggpaaGreatDoor.Rd
open Go Go.RowKit
set_option linter.unusedVariables false
set_option linter.unusedSimpArgs false
set_option maxRecDepth 100000

/-- Is a word one of a number above 0? -/
def someB (f m : Nat) : Bool := finB f m && decide (wSig f m ≠ 0) && !wNeg f m
theorem clsN_sig (f m : Nat) (hf : m < 2 ^ fB f) : (decide (clsN f m = 4) || decide (clsN f m = 5)) = (finB f m && decide (wSig f m ≠ 0)) := by
  have hp : 0 < 2 ^ (fP f - 1) := Nat.pow_pos (by omega)
  unfold finB
  rw [decide_eq_true hf, Bool.true_and]
  unfold clsN wSig
  by_cases h1 : wField f m = 2 * fE f + 1
  · rw [if_pos h1]
    split
    · simp
    · split <;> simp
  · rw [if_neg h1]
    by_cases h2 : wField f m = 0
    · rw [if_pos h2, if_pos h2]
      by_cases h3 : wFrac f m = 0
      · rw [if_pos h3, h3]; simp
      · rw [if_neg h3]; simp [h3]
    · rw [if_neg h2, if_neg h2]
      simp

theorem kfd {P : Program} {ops : Array Oper} {rest : List Oper} {Q : Exit → Act → World → Prop} {a : Act} {w : World} {o : Oper} {T : TypeId} {x : Operand} {i : Nat} {v v' : Value} (hr : ∀ w, (Instr.field T v i).run P w = .ok v' w) (ho : o.op = .field T x i) (h : wpList P ops Q rest (a.put o.dst v') w) (hx : a.eval x = v := by rfl) (hg : o.guard = none := by rfl) : wpList P ops Q (o :: rest) a w := by
  refine wpList_plain hg fun K hK => ?_
  unfold Oper.wp execOp
  simp only [ho, hx, Sem.run_bind, hr, Sem.run_pure, Result.andThen_ok]
  exact hK _ _ h
theorem nb_field0 (ng : Bool) (e : Int) (n : Nat) (w : World) : (Instr.field 46 (.agg (nbC ng e n)) 0).run Tryz.prog w = .ok (.bool ng) w := by kernel_rfl

theorem ref25_Some_no (f : Int) (m : Nat) (hs : Gives Tryz.prog 32 #[.int .i64 f, Wd m] (.bool false)) : Gives Tryz.prog 11 #[.int .i64 f, Wd m] (.bool false) := by
  intro w0
  have hst := St.start [] w0
  go_enter Tryz.func11, Tryz.ntmps11
  go_wp2_with ((first | (refine kf gf32 hst (hs) rfl rfl rfl rfl ?_; clear hst; intro w hst) | (refine kb 3 hst rfl rfl ?_; clear hst; intro b3 w hb3 hst) | (refine kl hst ta24 rfl ?_)); try simp only [pz, pn, sz, sc])
  refine bp_t rfl rfl (by rfl) ⟨?_, hst.keeps⟩
  rfl

theorem ref25_Some_is (f : Nat) (h1 : 1 ≤ f) (h4 : f ≤ 4) (m : Nat) (hm : m < M2) (hf : m < 2 ^ fB f) (hs : Gives Tryz.prog 32 #[.int .i64 f, Wd m] (.bool true)) : Gives Tryz.prog 11 #[.int .i64 f, Wd m] (.bool (!wNeg f m)) := by
  intro w0
  have hst := St.start [] w0
  have hv := ref07_Value f h1 h4 m hm hf
  have hfd := nb_field0 (wNeg f m) (wExp f m) (wSig f m)
  clear h1 h4 hm hf
  generalize nbC (wNeg f m) (wExp f m) (wSig f m) = cn at *
  generalize wNeg f m = ng at *
  go_enter Tryz.func11, Tryz.ntmps11
  go_wp2_with ((first | (refine kf gf32 hst (hs) rfl rfl rfl rfl ?_; clear hst; intro w hst) | (refine kf gf14 hst (hv) rfl rfl rfl rfl ?_; clear hst; intro w hst) | (refine kfd hfd rfl ?_) | (refine wl_guard (by rfl) ?_) | (refine kb 3 hst rfl rfl ?_; clear hst; intro b3 w hb3 hst) | (refine kl hst ta24 rfl ?_)); try simp only [pz, pn, sz, sc])
  refine bp_t rfl rfl (by rfl) ⟨?_, hst.keeps⟩
  rfl

theorem ref25_Some (f : Nat) (h1 : 1 ≤ f) (h4 : f ≤ 4) (m : Nat) (hm : m < M2) : Gives Tryz.prog 11 #[.int .i64 f, Wd m] (.bool (someB f m)) := by
  by_cases hf : m < 2 ^ fB f
  · have h := ref24_Some_of f m (clsN f m) (clsN_le f m) (ref06_Class f h1 h4 m hm hf)
    rw [clsN_sig f m hf] at h
    unfold someB
    cases hb : (finB f m && decide (wSig f m ≠ 0))
    · rw [hb] at h
      exact ref25_Some_no f m h
    · rw [hb] at h
      exact ref25_Some_is f h1 h4 m hm hf h
  · have h := ref24_Some_of f m 0 (by omega) (ref06_Class_no f h1 h4 m hm hf)
    have e : someB f m = false := by unfold someB finB; rw [decide_eq_false hf]; rfl
    rw [e]
    exact ref25_Some_no f m h
theorem ref25_Some_non (f : Int) (h : f < 1 ∨ 4 < f) (m : Nat) : Gives Tryz.prog 11 #[.int .i64 f, Wd m] (.bool false) := ref25_Some_no f m (ref24_Some_of f m 0 (by omega) (ref06_Class_non f h m))

/-- A value with one number of any length. -/
def RB (g : Value → Value) (n : Nat) (Lg : List (Nat × Obj)) (v : Value) : Prop := ∃ sl, v = g sl ∧ BigIn 0 Lg sl n
theorem BigIn.any {s : Nat} {Lg : List (Nat × Obj)} {v : Value} {n : Nat} (h : BigIn s Lg v n) : BigIn 0 Lg v n := ⟨fun _ _ => Nat.zero_le _, h.2⟩
theorem BigIn.new {s : Nat} {Lg : List (Nat × Obj)} {v : Value} {n : Nat} (h : BigIn s Lg v n) : NewIn s Lg := ⟨h.1, h.2.1⟩
theorem build_num1 (ng : Bool) (a : Option Addr) (l c : Nat) (e : Int) (w : World) : (Instr.build 61 (List.toArray [(0, .bool ng), (1, .slice a l c), (2, .int .i64 e)])).run Tryz.prog w = .ok (.agg #[.bool ng, .slice a l c, .int .i64 e]) w := by kernel_rfl

end Go.Proofs.YtefpoconpeggpaaGreatDoor.Rd
