/- The law RootFinite answers true. -/
import Derived.Test.YtefpoconpeggpaaGreatDoorJ36
import Derived.Test.YtefpoconpeggpaaGreatDoorJ30
import Derived.Test.YtefpoconpeggpaaGreatDoorJ27
import Derived.Test.YtefpoconpeggpaaGreatDoorJ32
namespace Go.Proofs.YtefpoconpeggpaaGreatDoor.Rd
open Go Go.RowKit
set_option linter.unusedVariables false
set_option linter.unusedSimpArgs false
set_option maxRecDepth 100000

theorem bl_one : bl 1 = 1 := rfl
/-- A root is so known. -/
theorem root_cmp (ng : Bool) (N : Nat) (aN aD : Option Addr) (xN yN xD yD lN lD : Nat) (E : Int) (hlN : lN ≤ 300) (hlD : lD ≤ 300) (hE1 : -100000000 ≤ E) (hE2 : E ≤ 100000000) (w0 : World) (hN : BigAt w0 (.slice aN xN yN) lN N) (hD : BigAt w0 (.slice aD xD yD) lD 1) :
    CmpIs (RlV ng 2 (.slice aN xN yN) (.slice aD xD yD) E) (fun m k => szC (m * m) (2 * k) N E) w0 :=
  fun w kp vm lm m k hm hlm hk1 hk2 => ref09_Cmp_root vm _ _ lm lN lD m N ng k E hlm hlN hlD hk1 hk2 hE1 hE2 w hm (hN.keep kp) (hD.keep kp)
theorem rX_t (f m : Nat) : wExp f m = 2 * rX f m + ((uUp f m + rB f m : Nat) : Int) ∧ rN f m = wSig f m * 2 ^ (uUp f m + rB f m) := by
  have h := rX_eq f m
  refine ⟨by unfold uExp at h; omega, ?_⟩
  unfold rN uSig
  rw [Nat.pow_add, Nat.mul_assoc]
theorem root_known (f m : Nat) (h0 : wSig f m ≠ 0) : KnC (fun a k => szC (a * a) (2 * k) (wSig f m) (wExp f m)) (rX f m) (rR f m) (rMore f m) := by
  obtain ⟨h1, h2⟩ := rX_t f m
  obtain ⟨r1, r2⟩ := rR_root f m h0
  exact KnC.root (wSig f m) (wExp f m) (rX f m) (uUp f m + rB f m) (rN f m) (rR f m) h1 h2 r1 r2
theorem wSig_dl (f m : Nat) : dl (wSig f m) ≤ 300 ∧ bl (wSig f m) ≤ 113 := by
  have hP := fP_in f
  have h := bl_small_dl (wSig f m) (fP f) (Nat.le_of_lt (wSig_lt f m)) (by omega)
  have := bl_le.2 (wSig_lt f m)
  omega

set_option maxHeartbeats 1000000 in
theorem ref25_Sqrt (f : Nat) (h1 : 1 ≤ f) (h4 : f ≤ 4) (mo : Nat) (m1 : 1 ≤ mo) (m5 : mo ≤ 5) (m : Nat) (hm : m < M2) (hf : m < 2 ^ fB f) (h0 : wSig f m ≠ 0) (w0 : World) :
    GivesAt Tryz.prog 12 #[.int .i64 f, .int .i64 mo, Wd m] (.tuple #[Wd (rootW f mo m).1, .int .i64 ((rootW f mo m).2 : Nat)]) w0 := by
  have hst := St.start [] w0
  have hre := fun w => ref25_Real f h1 h4 m hm hf w
  have hw := wExp_in f m
  have hue := uExp_in f m
  have hP := fP_in f
  have hx := rX_eq f m
  have hb := rB_in f m
  obtain ⟨d1, d2⟩ := wSig_dl f m
  obtain ⟨q1, q2, q3, q4⟩ := rR_bl f m h0
  have hks := root_known f m h0
  have hbs := bl_pos h0
  have hblp : bl (wSig f m) ≤ fP f := bl_le.2 (wSig_lt f m)
  have hub : uExp f m = wExp f m - (fP f : Int) + (bl (wSig f m) : Int) := by unfold uExp uUp; omega
  obtain ⟨res, hres⟩ : ∃ res, rootW f mo m = res := ⟨_, rfl⟩
  have hrd := fun aN xN yN aD xD yD w (hN : BigAt w (.slice aN xN yN) (dl (wSig f m)) (wSig f m)) (hD : BigAt w (.slice aD xD yD) (dl 1) 1) => ref09_Round f h1 h4 mo m1 m5 false 2 (wSig f m) 1 aN aD xN yN xD yD _ _ (wExp f m) _ (rX f m) (rR f m) (rMore f m) hks q1 (by omega) (by omega) (by omega) (by decide) (by omega) (by omega) (by omega) (by omega) (by omega)
    (by rw [bl_one, show ((2 : Nat) : Int) = 2 from rfl]; omega) (by rw [bl_one, show ((2 : Nat) : Int) = 2 from rfl]; omega) res.1 res.2 hres w (root_cmp false (wSig f m) aN aD xN yN xD yD _ _ (wExp f m) d1 (by decide) (by omega) (by omega) w hN hD) hN hD
  rw [hres]
  clear hblp hres hm hf h0 hw hue hP hx hb d1 d2 q1 q2 q3 q4 hks hbs hub h1 h4 m1 m5
  obtain ⟨rw_, rf⟩ := res
  simp only at hrd ⊢
  unfold RlV at hrd
  generalize wSig f m = sg at *
  generalize wExp f m = we at *
  go_enter Tryz.func12, Tryz.ntmps12
  go_wp2_with ((first | (refine kN (o := ⟨some 12, _, _, _, _, _⟩) gf13 hst (fun w hst => hre w) rfl rfl rfl rfl ?_; clear hst; intro v12 Lg12 w hn12 hR12 hst; (try simp only [List.cons_append, List.nil_append, List.append_nil, List.append_assoc] at hst); obtain ⟨sN, sD, LN, LD, rfl, hbN, hbD, hLN, hLD⟩ := hR12; obtain ⟨aN, xN, yN, rfl⟩ := hbN.slice; obtain ⟨aD, xD, yD, rfl⟩ := hbD.slice; unfold RlV) | (refine kg gf21 hst (fun w hst => hrd aN xN yN aD xD yD w (hbN.at hst (fun x h => by have := hLN x h; simp [this])) (hbD.at hst (fun x h => by have := hLD x h; simp [this]))) rfl rfl rfl rfl ?_; clear hst; intro w hst) | (refine kb 5 hst rfl rfl ?_; clear hst; intro b5 w hb5 hst) | (refine ka 6 hst tz24 rfl rfl ?_; clear hst; intro b6 w hb6 hst) | (refine kl hst ta24 rfl ?_) | (refine kt hst ta24 rfl rfl ?_; clear hst; intro w hst)); try simp only [pz, pn, sz, sc])
  refine bp_ct rfl rfl (la hst ta24) (by rfl) ⟨?_, hst.keeps⟩
  rfl

end Go.Proofs.YtefpoconpeggpaaGreatDoor.Rd

namespace Go.Proofs.YtefpoconpeggpaaGreatDoor.Rd
open Go Go.RowKit
set_option linter.unusedVariables false
set_option linter.unusedSimpArgs false
set_option maxRecDepth 100000

/-- What a case of the law holds. -/
def caseC (k f m : Int) (a b : Nat) : Array Value := #[.int .i64 k, .int .i64 f, .int .i64 m] ++ wdc a ++ wdc b
theorem caseC_size (k f m : Int) (a b : Nat) : (caseC k f m a b).size = 7 := by simp [caseC, wdc]
theorem caseC_one (k f m : Int) (a b : Nat) : OneC (caseC k f m a b) := ⟨by unfold caseC; rw [Array.all_append, Array.all_append, wdc_one, wdc_one]; simp [Value.oneCell']⟩
theorem caseC_at (k f m : Int) (a b : Nat) : (caseC k f m a b)[0]? = some (.int .i64 k) ∧ (caseC k f m a b)[0 + 1]? = some (.int .i64 f) ∧ (caseC k f m a b)[0 + 2]? = some (.int .i64 m) := ⟨rfl, rfl, rfl⟩
theorem caseC_a (k f m : Int) (a b : Nat) : Part (caseC k f m a b) (wdc a) (caseC k f m a b) (wdc a) 3 := ⟨#[.int .i64 k, .int .i64 f, .int .i64 m], wdc b, rfl, rfl, rfl, rfl⟩
/-- Is a word one of a number above 0, of whatever format? -/
def sB (f : Int) (m : Nat) : Bool := if 1 ≤ f ∧ f ≤ 4 then someB f.toNat m else false
theorem ref25_SomeI (f : Int) (m : Nat) (hm : m < M2) : Gives Tryz.prog 11 #[.int .i64 f, Wd m] (.bool (sB f m)) := by
  unfold sB
  by_cases h : 1 ≤ f ∧ f ≤ 4
  · rw [if_pos h]
    obtain ⟨k, rfl⟩ : ∃ k : Nat, f = k := ⟨f.toNat, by omega⟩
    exact ref25_Some k (by omega) (by omega) m hm
  · rw [if_neg h]
    exact ref25_Some_non f (by omega) m
theorem sB_un {f : Int} {m : Nat} (hm : m < M2) (h : sB f m = false) : UnNo f m := unNo_of f m hm (fun k e k1 k4 => by
  subst e
  unfold sB at h
  rw [if_pos (by omega)] at h
  simpa using h)
theorem sB_yes {f : Int} {m : Nat} (h : sB f m = true) : ∃ k : Nat, f = k ∧ 1 ≤ k ∧ k ≤ 4 ∧ someB k m = true := by
  unfold sB at h
  by_cases hf : 1 ≤ f ∧ f ≤ 4
  · rw [if_pos hf] at h
    exact ⟨f.toNat, by omega, by omega, by omega, h⟩
  · rw [if_neg hf] at h
    cases h
theorem encW_M2 (f j s : Nat) (ng : Bool) (h : wEnc f j s < (2 * fE f + 1) * 2 ^ (fP f - 1)) : encW f ng j s < M2 := by
  have a := fin_lt f
  have hB := fB_in f
  have b : 2 ^ (fB f - 1) + 2 ^ (fB f - 1) ≤ M2 := by
    have c : 2 ^ fB f ≤ 2 ^ 128 := Nat.pow_le_pow_right (by omega) hB.2
    have d : 2 ^ fB f = 2 ^ (fB f - 1) + 2 ^ (fB f - 1) := by
      obtain ⟨p, hp⟩ : ∃ p, fB f = p + 1 := ⟨fB f - 1, by omega⟩
      rw [hp, Nat.add_sub_cancel, Nat.pow_succ]; omega
    have e : M2 = 2 ^ 128 := by decide
    omega
  unfold encW
  split <;> omega
theorem rootW_M2 (f mo m : Nat) (h : someB f m = true) : (rootW f mo m).1 < M2 := by
  obtain ⟨h1, h2, h3, h4⟩ := someB_spec h
  obtain ⟨e1, e2⟩ := rootW_in f m mo h2 h3 _ rfl
  obtain ⟨a1, a2⟩ := root_range f m mo h2 h3
  obtain ⟨q1, _⟩ := rR_bl f m h3
  have hP := fP_in f
  obtain ⟨c1, c2⟩ := cutN_range (rR f m) (fP f) (rMore f m) mo false (by omega) q1
  obtain ⟨_, n2, _, _⟩ := norm_sig (fP f) _ c1 c2 (by omega) (by omega)
  rw [e1]
  exact encW_M2 f _ _ _ (wEnc_fin f _ _ (by omega) n2)
theorem rootW_flags (f mo m : Nat) (h : someB f m = true) : (rootW f mo m).2 = 0 ∨ (rootW f mo m).2 = 16 := by
  obtain ⟨h1, h2, h3, h4⟩ := someB_spec h
  obtain ⟨e1, e2⟩ := rootW_in f m mo h2 h3 _ rfl
  by_cases hx : decide (restN (rR f m) (bl (rR f m) - fP f) (rMore f m) ≠ 0) = true
  · rw [if_pos hx] at e2; right; omega
  · rw [if_neg hx] at e2; left; omega

end Go.Proofs.YtefpoconpeggpaaGreatDoor.Rd
