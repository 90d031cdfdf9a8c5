/- What root.Whole answers of a word. -/
import Derived.Test.YtefpoconpeggpaaGreatDoorK03
import Derived.Laws.IdiomStrings
import Derived.Test.YtefpoconpeggpaaGreatDoorK10
import Derived.Laws.DeepStrings4
import Derived.Laws.Concat
import Derived.Test.YtefpoconpeggpaaGreatDoorK26
import Derived.Test.YtefpoconpeggpaaGreatDoorK20
import Derived.Test.YtefpoconpeggpaaGreatDoorK27
import Derived.Test.YtefpoconpeggpaaGreatDoorK34
import Derived.Test.YtefpoconpeggpaaGreatDoorK35
import Derived.Test.YtefpoconpeggpaaGreatDoorK29
import Derived.Test.YtefpoconpeggpaaGreatDoorK31
import Derived.Test.YtefpoconpeggpaaGreatDoorK32
import Derived.Test.YtefpoconpeggpaaGreatDoorK11
namespace Go.Proofs.YtefpoconpeggpaaGreatDoor.Rd
open Go Go.RowKit
set_option linter.unusedVariables false
set_option linter.unusedSimpArgs false
set_option maxRecDepth 100000

end Go.Proofs.YtefpoconpeggpaaGreatDoor.Rd

namespace Go.Proofs.YtefpoconpeggpaaGreatDoor.Rd
open Go Go.RowKit
set_option linter.unusedVariables false
set_option linter.unusedSimpArgs false
set_option maxRecDepth 100000

end Go.Proofs.YtefpoconpeggpaaGreatDoor.Rd

namespace Go.Proofs.YtefpoconpeggpaaGreatDoor.Rd
open Go Go.RowKit
set_option linter.unusedVariables false
set_option linter.unusedSimpArgs false
set_option maxRecDepth 100000

section
variable {P : Program} {ops : Array Oper} {rest : List Oper} {Q : Exit → Act → World → Prop} {a : Act} {w w0 : World} {S : List Nat} {L pre Lg : List (Nat × Obj)}

end

end Go.Proofs.YtefpoconpeggpaaGreatDoor.Rd

namespace Go.Proofs.YtefpoconpeggpaaGreatDoor.Rd
open Go Go.RowKit
set_option linter.unusedVariables false
set_option linter.unusedSimpArgs false
set_option maxRecDepth 100000

section
variable {P : Program} {ops : Array Oper} {rest : List Oper} {Q : Exit → Act → World → Prop} {a : Act} {w : World}
end
end Go.Proofs.YtefpoconpeggpaaGreatDoor.Rd

namespace Go.Proofs.YtefpoconpeggpaaGreatDoor.Rd
open Go Go.RowKit
set_option linter.unusedVariables false
set_option linter.unusedSimpArgs false
set_option maxRecDepth 100000

end Go.Proofs.YtefpoconpeggpaaGreatDoor.Rd

namespace Go.Proofs.YtefpoconpeggpaaGreatDoor.Rd
open Go Go.RowKit
set_option linter.unusedVariables false
set_option linter.unusedSimpArgs false
set_option maxRecDepth 100000

end Go.Proofs.YtefpoconpeggpaaGreatDoor.Rd

namespace Go.Proofs.YtefpoconpeggpaaGreatDoor.Rd
open Go Go.RowKit
set_option linter.unusedVariables false
set_option linter.unusedSimpArgs false
set_option maxRecDepth 100000

end Go.Proofs.YtefpoconpeggpaaGreatDoor.Rd

namespace Go.Proofs.YtefpoconpeggpaaGreatDoor.Rd
open Go Go.RowKit
set_option linter.unusedVariables false
set_option linter.unusedSimpArgs false
set_option maxRecDepth 100000

theorem bl_small_dl (u k : Nat) (h : u ≤ 2 ^ k) (hk : k ≤ 1000) : dl u ≤ 300 ∧ bl u ≤ 1001 := by
  have h1 : u < 2 ^ (k + 1) := by rw [Nat.pow_succ]; have : 0 < 2 ^ k := Nat.pow_pos (by omega); omega
  have := dl_2pow u (k + 1) h1
  have := bl_le.2 h1
  omega
theorem div_lt_prec (r p b : Nat) (hb : bl r ≤ p + b) : r / 2 ^ b < 2 ^ p := by
  rw [Nat.div_lt_iff_lt_mul (Nat.pow_pos (by omega)), ← Nat.pow_add]
  exact Nat.lt_of_lt_of_le (bl_spec r).1 (Nat.pow_le_pow_right (by omega) hb)
end Go.Proofs.YtefpoconpeggpaaGreatDoor.Rd

namespace Go.Proofs.YtefpoconpeggpaaGreatDoor.Rd
open Go Go.RowKit
set_option linter.unusedVariables false
set_option linter.unusedSimpArgs false
set_option maxRecDepth 100000

theorem bl_one : bl 1 = 1 := rfl
/-- A root is so known. -/
theorem root_cmp (ng : Bool) (N : Nat) (aN aD : Option Addr) (xN yN xD yD lN lD : Nat) (E : Int) (hlN : lN ≤ 300) (hlD : lD ≤ 300) (hE1 : -100000000 ≤ E) (hE2 : E ≤ 100000000) (w0 : World) (hN : BigAt w0 (.slice aN xN yN) lN N) (hD : BigAt w0 (.slice aD xD yD) lD 1) :
    CmpIs (RlV ng 2 (.slice aN xN yN) (.slice aD xD yD) E) (fun m k => szC (m * m) (2 * k) N E) w0 :=
  fun w kp vm lm m k hm hlm hk1 hk2 => ref09_Cmp_root vm _ _ lm lN lD m N ng k E hlm hlN hlD hk1 hk2 hE1 hE2 w hm (hN.keep kp) (hD.keep kp)
theorem rX_t (f m : Nat) : wExp f m = 2 * rX f m + ((uUp f m + rB f m : Nat) : Int) ∧ rN f m = wSig f m * 2 ^ (uUp f m + rB f m) := by
  have h := rX_eq f m
  refine ⟨by unfold uExp at h; omega, ?_⟩
  unfold rN uSig
  rw [Nat.pow_add, Nat.mul_assoc]
theorem root_known (f m : Nat) (h0 : wSig f m ≠ 0) : KnC (fun a k => szC (a * a) (2 * k) (wSig f m) (wExp f m)) (rX f m) (rR f m) (rMore f m) := by
  obtain ⟨h1, h2⟩ := rX_t f m
  obtain ⟨r1, r2⟩ := rR_root f m h0
  exact KnC.root (wSig f m) (wExp f m) (rX f m) (uUp f m + rB f m) (rN f m) (rR f m) h1 h2 r1 r2
theorem wSig_dl (f m : Nat) : dl (wSig f m) ≤ 300 ∧ bl (wSig f m) ≤ 113 := by
  have hP := fP_in f
  have h := bl_small_dl (wSig f m) (fP f) (Nat.le_of_lt (wSig_lt f m)) (by omega)
  have := bl_le.2 (wSig_lt f m)
  omega

end Go.Proofs.YtefpoconpeggpaaGreatDoor.Rd

namespace Go.Proofs.YtefpoconpeggpaaGreatDoor.Rd
open Go Go.RowKit
set_option linter.unusedVariables false
set_option linter.unusedSimpArgs false
set_option maxRecDepth 100000

/-- Is a word one of a number above 0, of whatever format? -/
def sB (f : Int) (m : Nat) : Bool := if 1 ≤ f ∧ f ≤ 4 then someB f.toNat m else false
theorem ref25_SomeI (f : Int) (m : Nat) (hm : m < M2) : Gives Tryz.prog 11 #[.int .i64 f, Wd m] (.bool (sB f m)) := by
  unfold sB
  by_cases h : 1 ≤ f ∧ f ≤ 4
  · rw [if_pos h]
    obtain ⟨k, rfl⟩ : ∃ k : Nat, f = k := ⟨f.toNat, by omega⟩
    exact ref25_Some k (by omega) (by omega) m hm
  · rw [if_neg h]
    exact ref25_Some_non f (by omega) m
theorem sB_un {f : Int} {m : Nat} (hm : m < M2) (h : sB f m = false) : UnNo f m := unNo_of f m hm (fun k e k1 k4 => by
  subst e
  unfold sB at h
  rw [if_pos (by omega)] at h
  simpa using h)
theorem sB_yes {f : Int} {m : Nat} (h : sB f m = true) : ∃ k : Nat, f = k ∧ 1 ≤ k ∧ k ≤ 4 ∧ someB k m = true := by
  unfold sB at h
  by_cases hf : 1 ≤ f ∧ f ≤ 4
  · rw [if_pos hf] at h
    exact ⟨f.toNat, by omega, by omega, by omega, h⟩
  · rw [if_neg hf] at h
    cases h
end Go.Proofs.YtefpoconpeggpaaGreatDoor.Rd

namespace Go.Proofs.YtefpoconpeggpaaGreatDoor.Rd
open Go Go.RowKit
set_option linter.unusedVariables false
set_option linter.unusedSimpArgs false
set_option maxRecDepth 100000

set_option maxHeartbeats 4000000 in
theorem ref24_Digits (ng : Bool) (K N D : Nat) (aN aD : Option Addr) (xN yN xD yD : Nat) (lN lD : Nat) (E : Int) (c : Nat → Int → Int) (e : Int) (r : Nat) (s : Bool) (hK : KnC c e r s) (p b : Nat) (hp1 : 1 ≤ p) (hp2 : p ≤ 600) (hbp : bl r = p + (b + 1)) (hK1 : 1 ≤ K) (hK3 : K ≤ 3)
    (hbN : bl N ≤ 32000) (hbD : bl D ≤ 32000) (hbr : bl r ≤ 20000) (hE1 : -100000000 ≤ E) (hE2 : E ≤ 100000000) (he1 : -2000000 ≤ e) (he2 : e ≤ 2000000) (hs1 : e + (bl r : Int) - 1 ≤ ((bl N : Int) + E - bl D) / K + 3) (hs2 : ((bl N : Int) + E - bl D) / K + 3 ≤ 20000000) (w0 : World)
    (hC : CmpIs (RlV ng K (.slice aN xN yN) (.slice aD xD yD) E) c w0) (hN : BigAt w0 (.slice aN xN yN) lN N) (hD : BigAt w0 (.slice aD xD yD) lD D) :
    GivesAt Tryz.prog 28 #[RlV ng K (.slice aN xN yN) (.slice aD xD yD) E, .int .i64 p] (.bool (decide (restN r (b + 1) s = 0))) w0 := by
  have hst := St.start [] w0
  have hr0 : r ≠ 0 := fun h => by rw [h, bl_zero] at hbp; omega
  have htop := Lib.hid (fun w (k : Keeps [] w0 w) => ref09_Top ng K N D (.slice aN xN yN) (.slice aD xD yD) lN lD E c e r s hK hr0 hK1 hK3 hbN hbD (by omega) hE1 hE2 (by omega) (by omega) hs1 hs2 w (hC.keep k) (hN.keep k) (hD.keep k))
  obtain ⟨pl, hpl⟩ : ∃ pl : Int, pl = e + ((b + 1 : Nat) : Int) := ⟨_, rfl⟩
  have hdn := Lib.hid (fun w (k : Keeps [] w0 w) => ref09_Down ng K aN aD xN yN xD yD E c e r s hK b p hp1 hp2 (by omega) (div_lt_prec r p (b + 1) (by omega)) pl hpl (by omega) (by omega) w (hC.keep k))
  obtain ⟨T, hT⟩ : ∃ T : Int, T = e + (bl r : Int) - 1 := ⟨_, rfl⟩
  rw [← hT] at htop
  have E1 : T - (p : Int) + 1 = pl := by omega
  have W1 : IntKind.i64.wrap (T - (p : Int)) = T - (p : Int) := by rw [IntKind.wrap_i64]; omega
  have W2 : IntKind.i64.wrap (T - (p : Int) + 1) = pl := by rw [IntKind.wrap_i64]; omega
  have hz : ((restN r (b + 1) s : Nat) == 0) = decide (restN r (b + 1) s = 0) := by
    by_cases h : restN r (b + 1) s = 0
    · rw [h]; rfl
    · rw [decide_eq_false h]; simpa using h
  obtain ⟨z, hz'⟩ : ∃ z, decide (restN r (b + 1) s = 0) = z := ⟨_, rfl⟩
  have hq : decide (((restN r (b + 1) s : Nat) : Int) = 0) = z := by
    rw [← hz']
    by_cases h : restN r (b + 1) s = 0
    · rw [decide_eq_true h, decide_eq_true (by omega)]
    · rw [decide_eq_false h, decide_eq_false (by omega)]
  have hq2 : (((restN r (b + 1) s : Nat) : Int) == 0) = z := by rw [← hq]; rfl
  rw [hz']
  clear hC hN hD hK hs1 hs2 hE1 hE2 he1 he2 hbN hbD hbr hK1 hK3 hbp hr0 hpl hz hz' hT E1
  unfold RlV at *
  generalize ((restN r (b + 1) s : Nat) : Int) = rs at *
  go_enter Tryz.func28, Tryz.ntmps28
  go_wp2_with ((first | (refine kb 2 hst rfl rfl ?_; clear hst; intro b2 w hb2 hst) | (refine kl hst ta41 rfl ?_)); try simp only [pz, pn, sz, sc])
  refine wp_region_T 13  hst (by kernel_rfl) ?_; clear hst; intro w hst; (try simp only [List.length_cons, List.length_nil, Nat.reduceAdd, Array.replicate_succ, Array.replicate_zero, List.push_toArray, List.nil_append, List.cons_append])
  refine r0 3 ?_; simp only [pz, pn, sz, sc, W1, W2]
  refine r0 6 ?_; simp only [pz, pn, sz, sc, W1, W2]
  refine rl 0 rfl ?_ (by first | exact ylA ta41 | exact ylM ta41); simp only [pz, pn, sz, sc, W1, W2]
  refine rl 1 rfl ?_ (by first | exact ylA ta41 | exact ylM ta41); simp only [pz, pn, sz, sc, W1, W2]
  refine r1 2 ?_; (first | (refine kg gf49 hst (fun w hst => htop.out w hst.keeps) rfl rfl rfl rfl ?_; clear hst; intro w hst) | (refine kN (o := ⟨some 15, _, _, _, _, _⟩) gf60 hst (fun w hst => hdn.out w hst.keeps) rfl rfl rfl rfl ?_; clear hst; intro v15 Lg15 w hn15 hR15 hst; (try simp only [List.cons_append, List.nil_append, List.append_nil, List.append_assoc] at hst); obtain ⟨s15, rfl, hb15⟩ := hR15) | (refine kp ?_)); (try simp only [pz, pn, sz, sc, W1, W2]); refine re ?_
  refine r0 4 ?_; simp only [pz, pn, sz, sc, W1, W2]
  refine r0 5 ?_; simp only [pz, pn, sz, sc, W1, W2]
  refine r1 7 ?_; (first | (refine kg gf49 hst (fun w hst => htop.out w hst.keeps) rfl rfl rfl rfl ?_; clear hst; intro w hst) | (refine kN (o := ⟨some 15, _, _, _, _, _⟩) gf60 hst (fun w hst => hdn.out w hst.keeps) rfl rfl rfl rfl ?_; clear hst; intro v15 Lg15 w hn15 hR15 hst; (try simp only [List.cons_append, List.nil_append, List.append_nil, List.append_assoc] at hst); obtain ⟨s15, rfl, hb15⟩ := hR15) | (refine kp ?_)); (try simp only [pz, pn, sz, sc, W1, W2]); refine re ?_
  refine r0 8 ?_; simp only [pz, pn, sz, sc, W1, W2]
  refine r0 9 ?_; simp only [pz, pn, sz, sc, W1, W2]
  refine r0 10 ?_; simp only [pz, pn, sz, sc, W1, W2]
  refine r0 11 ?_; simp only [pz, pn, sz, sc, W1, W2]
  refine r0 12 ?_; simp only [pz, pn, sz, sc, W1, W2]
  refine rd_ ?_
  all_goals
    go_wp2_with ((first | (refine kb 2 hst rfl rfl ?_; clear hst; intro b2 w hb2 hst) | (refine kl hst ta41 rfl ?_)); try simp only [pz, pn, sz, sc])
    refine bp_t rfl rfl (by rfl) ⟨?_, hst.keeps⟩
    rfl

end Go.Proofs.YtefpoconpeggpaaGreatDoor.Rd

namespace Go.Proofs.YtefpoconpeggpaaGreatDoor.Rd
set_option linter.unusedVariables false

theorem sq_half (n q : Nat) (h : 4 * n = q * q) : ∃ t, n = t * t := by
  rcases Nat.mod_two_eq_zero_or_one q with h0 | h0
  · obtain ⟨t, rfl⟩ : ∃ t, q = 2 * t := ⟨q / 2, by omega⟩
    refine ⟨t, ?_⟩
    have : 2 * t * (2 * t) = 4 * (t * t) := by grind
    omega
  · obtain ⟨t, rfl⟩ : ∃ t, q = 2 * t + 1 := ⟨q / 2, by omega⟩
    have : (2 * t + 1) * (2 * t + 1) = 4 * (t * t + t) + 1 := by grind
    omega
theorem sq_of_pow4 (d : Nat) : ∀ n r : Nat, n * (2 ^ d * 2 ^ d) = r * r → ∃ q, n = q * q := by
  induction d with
  | zero => intro n r h; exact ⟨r, by simpa using h⟩
  | succ d ih =>
    intro n r h
    obtain ⟨q, hq⟩ := ih (4 * n) r (by
      rw [← h, Nat.pow_succ]
      generalize 2 ^ d = x
      grind)
    exact sq_half n q hq
theorem sq_root {n q : Nat} (h : n = q * q) (hn : n < 2 ^ 256) : isqrt n = q := by
  obtain ⟨h1, h2⟩ := (isqrt_spec (n := n) (by rw [show (4:Nat) ^ 128 = 2 ^ 256 by decide]; exact hn)).1
  rcases Nat.lt_trichotomy (isqrt n) q with h' | h' | h'
  · have := Nat.mul_self_le_mul_self (show isqrt n + 1 ≤ q from h'); omega
  · exact h'
  · have := Nat.mul_self_lt_mul_self h'; omega
/-- n: the radicand with an even exponent, without noughts at its end; N: the one that an engine is asked of. -/
theorem root_whole (n N d p r : Nat) (hN : N = n * (2 ^ d * 2 ^ d)) (hN2 : N < 2 ^ 256) (hn : n < 2 ^ (p + p)) (hr : isqrt N = r) (hb : p < bl r) : restN r (bl r - p) (decide (r * r ≠ N)) = 0 ↔ isqrt n * isqrt n = n := by
  have hp0 : 0 < 2 ^ d * 2 ^ d := Nat.mul_pos (Nat.pow_pos (by omega)) (Nat.pow_pos (by omega))
  have hnN : n ≤ N := by rw [hN]; exact Nat.le_mul_of_pos_right _ hp0
  have hrest : restN r (bl r - p) (decide (r * r ≠ N)) = 0 ↔ (r % 2 ^ (bl r - p) = 0 ∧ r * r = N) := by
    unfold restN
    rw [if_neg (by omega)]
    by_cases hx : r % 2 ^ (bl r - p) = 0 ∧ decide (r * r ≠ N) = false
    · rw [if_pos hx]
      have : r * r = N := by have := hx.2; simpa using this
      exact ⟨fun _ => ⟨hx.1, this⟩, fun _ => rfl⟩
    · rw [if_neg hx]
      constructor
      · intro h
        split at h
        · omega
        · split at h <;> omega
      · rintro ⟨h1, h2⟩
        exact absurd ⟨h1, by simp [h2]⟩ hx
  rw [hrest]
  constructor
  · rintro ⟨_, h⟩
    obtain ⟨q, hq⟩ := sq_of_pow4 d n r (by rw [← hN, h])
    rw [sq_root hq (by omega)]
    exact hq.symm
  · intro h
    obtain ⟨q, hq⟩ : ∃ q, isqrt n = q := ⟨_, rfl⟩
    rw [hq] at h
    have e : N = q * 2 ^ d * (q * 2 ^ d) := by
      rw [hN, ← h]
      generalize 2 ^ d = x
      grind
    have er : r = q * 2 ^ d := by rw [← hr]; exact sq_root e hN2
    have hqp : q < 2 ^ p := by
      rcases Nat.lt_or_ge q (2 ^ p) with h' | h'
      · exact h'
      · have a := Nat.mul_self_le_mul_self h'
        rw [← Nat.pow_add] at a
        omega
    refine ⟨?_, by rw [er]; exact e.symm⟩
    have hq0 : q ≠ 0 := fun h0 => by rw [er, h0, Nat.zero_mul, bl_zero] at hb; omega
    have hbl : bl r = bl q + d := by rw [er, bl_mul_pow q d hq0]
    have hbq : bl q ≤ p := bl_le.2 hqp
    obtain ⟨k, hk⟩ : ∃ k, d = k + (bl r - p) := ⟨d - (bl r - p), by omega⟩
    rw [er, hk, Nat.pow_add, ← Nat.mul_assoc]
    conv => lhs; rw [show bl (q * 2 ^ k * 2 ^ (bl r - p)) = bl r by rw [Nat.mul_assoc, ← Nat.pow_add, ← hk, ← er]]
    exact Nat.mul_mod_left _ _

end Go.Proofs.YtefpoconpeggpaaGreatDoor.Rd

namespace Go.Proofs.YtefpoconpeggpaaGreatDoor.Rd
open Go Go.RowKit
set_option linter.unusedVariables false
set_option linter.unusedSimpArgs false
set_option maxRecDepth 100000

theorem odd_part (n : Nat) : n ≠ 0 → ∃ m k, n = m * 2 ^ k ∧ m % 2 = 1 := by
  induction n using Nat.strongRecOn with
  | _ n ih =>
    intro h
    by_cases h1 : n % 2 = 1
    · exact ⟨n, 0, by simp, h1⟩
    · obtain ⟨m, k, e, hm⟩ := ih (n / 2) (by omega) (by omega)
      refine ⟨m, k + 1, ?_, hm⟩
      rw [Nat.pow_succ, ← Nat.mul_assoc, ← e]
      omega
/-- Is a word's root just a number of the precision? -/
def wholeB (f m : Nat) : Bool := decide (restN (rR f m) (bl (rR f m) - fP f) (rMore f m) = 0)
theorem whole_parts (f m : Nat) (h0 : wSig f m ≠ 0) : ∃ (m' k b2 : Nat) (x : Int) (r : Nat), m' % 2 = 1 ∧ uSig f m = m' * 2 ^ k ∧ k ≤ 200 ∧ (b2 = 0 ∨ b2 = 1) ∧ uExp f m + (k : Int) - (b2 : Int) = 2 * x ∧ m' * 2 ^ b2 < 2 ^ 256 ∧ isqrt (m' * 2 ^ b2) = r ∧ bl r ≤ fP f ∧ decide (m' * 2 ^ b2 - r * r = 0) = wholeB f m := by
  obtain ⟨s1, s2⟩ := uSig_in f m h0
  have hP := fP_in f
  have hp0 : 0 < 2 ^ (fP f - 1) := Nat.pow_pos (by omega)
  obtain ⟨m', k, e, hm⟩ := odd_part (uSig f m) (by omega)
  have hk0 : 0 < 2 ^ k := Nat.pow_pos (by omega)
  have hmle : m' ≤ uSig f m := by rw [e]; exact Nat.le_mul_of_pos_right _ hk0
  have hk : k ≤ 200 := by
    rcases Nat.lt_or_ge k (fP f) with h | h
    · omega
    · exfalso
      have a : 2 ^ fP f ≤ 2 ^ k := Nat.pow_le_pow_right (by omega) h
      have b : 2 ^ k ≤ m' * 2 ^ k := Nat.le_mul_of_pos_left _ (by omega)
      omega
  obtain ⟨b2, x, hb, hx⟩ : ∃ (b2 : Nat) (x : Int), (b2 = 0 ∨ b2 = 1) ∧ uExp f m + (k : Int) - (b2 : Int) = 2 * x := by
    by_cases h : (uExp f m + (k : Int)) % 2 = 0
    · exact ⟨0, (uExp f m + (k : Int)) / 2, .inl rfl, by omega⟩
    · exact ⟨1, (uExp f m + (k : Int) - 1) / 2, .inr rfl, by omega⟩
  have hlt : m' * 2 ^ b2 < 2 ^ (fP f + 1) := by
    rw [Nat.pow_succ]
    rcases hb with rfl | rfl <;> omega
  have h256 : m' * 2 ^ b2 < 2 ^ 256 := Nat.lt_of_lt_of_le hlt (Nat.pow_le_pow_right (by omega) (by omega))
  have hbr : bl (isqrt (m' * 2 ^ b2)) ≤ fP f := by
    refine bl_le.2 ?_
    rcases Nat.lt_or_ge (isqrt (m' * 2 ^ b2)) (2 ^ fP f) with h | h
    · exact h
    · exfalso
      have a := Nat.mul_self_le_mul_self h
      rw [← Nat.pow_add] at a
      have b := (isqrt_spec (n := m' * 2 ^ b2) (by rw [show (4:Nat) ^ 128 = 2 ^ 256 by decide]; exact h256)).1.1
      have c : 2 ^ (fP f + 1) ≤ 2 ^ (fP f + fP f) := Nat.pow_le_pow_right (by omega) (by omega)
      omega
  refine ⟨m', k, b2, x, _, hm, e, hk, hb, hx, h256, rfl, hbr, ?_⟩
  -- the radicand that an engine is asked of is that one, shifted up by an even number of digits
  have hrx := rX_eq f m
  have hrb := rB_in f m
  obtain ⟨d, hd⟩ : ∃ d : Nat, (d : Int) = x - rX f m := ⟨(x - rX f m).toNat, by rcases hb with rfl | rfl <;> omega⟩
  have hN : rN f m = m' * 2 ^ b2 * (2 ^ d * 2 ^ d) := by
    unfold rN
    rw [e, Nat.mul_assoc, Nat.mul_assoc, ← Nat.pow_add, ← Nat.pow_add, ← Nat.pow_add]
    congr 2
    omega
  obtain ⟨q1, _⟩ := rR_bl f m h0
  have hw := root_whole (m' * 2 ^ b2) (rN f m) d (fP f) (rR f m) hN (rN_256 f m h0) (Nat.lt_of_lt_of_le hlt (Nat.pow_le_pow_right (by omega) (by omega))) rfl q1
  have hle : isqrt (m' * 2 ^ b2) * isqrt (m' * 2 ^ b2) ≤ m' * 2 ^ b2 := (isqrt_spec (n := m' * 2 ^ b2) (by rw [show (4:Nat) ^ 128 = 2 ^ 256 by decide]; exact h256)).1.1
  unfold wholeB rMore
  rw [decide_eq_decide, hw]
  omega

set_option maxHeartbeats 2000000 in
theorem root_Whole (f : Nat) (h1 : 1 ≤ f) (h4 : f ≤ 4) (m : Nat) (hs : someB f m = true) (w0 : World) (hF : FmtIn w0) :
    GivesAt Tryz.prog 24 #[.int .i64 f, Wd m] (.bool (wholeB f m)) w0 := by
  obtain ⟨hm, hfin, h0, hng⟩ := someB_spec hs
  have hst := St.start [] w0
  have hk := Lib.hid (fun w (k : Keeps [] w0 w) => hF.keep k (by simp))
  have hlt := hF.lt
  have hP := fP_in f
  have hue := uExp_in f m
  obtain ⟨s1, s2⟩ := uSig_in f m h0
  have hsM : uSig f m < M := small_M (Nat.lt_of_lt_of_le s2 (Nat.le_trans (Nat.pow_le_pow_right (by omega) (show fP f ≤ 256 by omega)) (by decide)))
  obtain ⟨m', k, b2, x, r, hm', hu, hk2, hb, hx, h256, hr, hrp, hw⟩ := whole_parts f m h0
  have hab := fun b5 w (h : FmtIn w) (k5 : b5 ≠ 0) q5 => root_above1 f h1 h4 m hm hfin h0 hng 57 gf57 #[.pointer (some ⟨b5, 0, none⟩)] b5 (.cells #[.bool false] 4) (.cells #[.bool (wholeB f m)] 4) w h k5 q5
    (fun w' _ q' => by
      rw [← hw, hu]
      exact root_Whole_1 (fP f) (by omega) false (uExp f m) m' k b2 x hm' (by rw [← hu]; exact hsM) (by omega) (by omega) (by omega) hb hx h256 r hr hrp b5 k5 w' q')
  clear hF hm hfin h0 hng hs hP hue s1 s2 hsM hm' hu hk2 hb hx h256 hr hrp hw
  generalize wholeB f m = z at *
  go_enter Tryz.func24, Tryz.ntmps24
  go_wp2_with ((first | (refine kT gf42 hst (fun w hst => hab b5 w (hk.out w hst.keeps) (by omega) (hst.own _ _ (by repeat (first | exact List.Mem.head _ | refine List.Mem.tail _ ?_)))) rfl rfl rfl rfl ?_; clear hst; intro w hst) | (refine kb 3 hst rfl rfl ?_; clear hst; intro b3 w hb3 hst) | (refine ka 5 hst tz4 rfl rfl ?_; clear hst; intro b5 w hb5 hst) | (refine ks hst tc4 rfl rfl ?_; clear hst; intro w hst) | (refine kl hst ta24 rfl ?_) | (refine kc hst tc4 rfl ?_)); try simp only [pz, pn, sz, sc])
  refine bp_t rfl rfl (by rfl) ⟨?_, hst.keeps⟩
  rfl

set_option maxHeartbeats 2000000 in
theorem root_Whole_no (f : Int) (m : Nat) (h : UnNo f m) (w0 : World) (hF : FmtIn w0) : GivesAt Tryz.prog 24 #[.int .i64 f, Wd m] (.bool false) w0 := by
  obtain ⟨ng, e, n, ok, hno, hU⟩ := h
  have hst := St.start [] w0
  have hab := Lib.hid (fun g w (k : Keeps [] w0 w) => root_above_no f m g #[] ng e n ok w hno (fun w' k' => hU w' (hF.keep (k.trans k' (by simp)) (by simp))))
  clear hU hno hF
  go_enter Tryz.func24, Tryz.ntmps24
  go_wp2_with ((first | (refine kg gf42 hst (fun w hst => hab.out _ w hst.keeps) rfl rfl rfl rfl ?_; clear hst; intro w hst) | (refine kb 3 hst rfl rfl ?_; clear hst; intro b3 w hb3 hst) | (refine ka 5 hst tz4 rfl rfl ?_; clear hst; intro b5 w hb5 hst) | (refine ks hst tc4 rfl rfl ?_; clear hst; intro w hst) | (refine kl hst ta24 rfl ?_) | (refine kc hst tc4 rfl ?_)); try simp only [pz, pn, sz, sc])
  refine bp_t rfl rfl (by rfl) ⟨?_, hst.keeps⟩
  rfl

end Go.Proofs.YtefpoconpeggpaaGreatDoor.Rd
