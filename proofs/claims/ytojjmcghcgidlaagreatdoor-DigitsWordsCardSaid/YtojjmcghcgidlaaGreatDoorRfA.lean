/- What limb.Sub, wide.Sub, wide.From, wide.Low answer, as numbers. -/
import Derived.Test.YtojjmcghcgidlaaGreatDoorRdR
import Derived.Shelf.Spec.BitsCarry
namespace Go.Proofs.YtojjmcghcgidlaaGreatDoor.Rd
open Go Go.RowKit
set_option linter.unusedVariables false
set_option linter.unusedSimpArgs false
set_option maxRecDepth 100000

/-- One limb of a difference, and what is borrowed. -/
def subl (x y c : Nat) : Nat × Nat := ((x + B - y - c) % B, if x < y + c then 1 else 0)
theorem sub_lt (x y c : Nat) (hx : x < B) (hy : y < B) (hc : c ≤ 1) : (subl x y c).1 < B ∧ (subl x y c).2 ≤ 1 :=
  ⟨Nat.mod_lt _ B_pos, by unfold subl; simp only; split <;> omega⟩
theorem subl_eq (x y c : Nat) (hx : x < B) (hy : y < B) (hc : c ≤ 1) : (subl x y c).1 + y + c = x + (subl x y c).2 * B := by
  unfold subl
  have := B_val
  simp only
  split <;> rename_i h
  · rw [Nat.mod_eq_of_lt (by omega)]; omega
  · rw [show x + B - y - c = x - y - c + B by omega, Nat.add_mod_right, Nat.mod_eq_of_lt (by omega)]; omega

theorem sub64 (x y c : Nat) (hc : c ≤ 1) (w : World) :
    (callFunc 54 #[.int .u64 x, .int .u64 y, .int .u64 c]).run Tryz.prog w = .ok (.value (.tuple #[.int .u64 ((subl x y c).1 : Nat), .int .u64 ((subl x y c).2 : Nat)])) w := by
  rw [run_callFunc_extern Tryz.func54 (by kernel_rfl) (by kernel_rfl) (by kernel_rfl) (e := sub64Entry) (by kernel_rfl), run_sub64 x y c hc]
  rfl

theorem limb_Sub (x y c : Nat) (hx : x < B) (hy : y < B) (hc : c ≤ 1) :
    Gives Tryz.prog 37 #[.int .u64 x, .int .u64 y, .int .u64 c] (.tuple #[.int .u64 ((subl x y c).1 : Nat), .int .u64 ((subl x y c).2 : Nat)]) := by
  intro w0
  have e1 : (if c = 0 then 0 else 1) = c := by split <;> omega
  have hone := limb_one c
  rw [e1] at hone
  clear e1
  have hst := St.start [] w0
  go_enter Tryz.func37, Tryz.ntmps37
  go_wp2_with ((first | (refine kf gf55 hst (hone) rfl rfl rfl rfl ?_; clear hst; intro w hst) | (refine kx (sub64 x y c hc _) rfl rfl rfl rfl ?_)); try simp only [pz, pn, sz, sc])
  go_ret2
  exact ⟨rfl, hst.keeps⟩

theorem limbs_sub (a b : Nat) : ∀ k, (limbs subl a b k).1 + b % B ^ k = a % B ^ k + (limbs subl a b k).2 * B ^ k
  | 0 => by simp [limbs, Nat.mod_one]
  | k + 1 => by
    have ih := limbs_sub a b k
    have hl := limbs_lt (f := subl) sub_lt a b k
    simp only [limbs]
    rw [lb_split a k, lb_split b k]
    generalize hL : limbs subl a b k = r at ih hl ⊢
    have e := subl_eq (lb a k) (lb b k) r.2 (lb_lt _ _) (lb_lt _ _) hl.2
    generalize subl (lb a k) (lb b k) r.2 = s at e ⊢
    have : s.2 * B ^ (k + 1) = s.2 * B * B ^ k := by rw [Nat.pow_succ', Nat.mul_assoc]
    rw [this]
    have e2 : (s.1 + lb b k + r.2) * B ^ k = (lb a k + s.2 * B) * B ^ k := by rw [e]
    rw [Nat.add_mul, Nat.add_mul, Nat.add_mul] at e2
    omega

theorem limbs_sub8 (a b : Nat) (ha : a < M) (hb : b < M) : (limbs subl a b 8).1 = (a + M - b) % M ∧ decide ((limbs subl a b 8).2 ≠ 0) = decide (a < b) := by
  have h := limbs_sub a b 8
  have hl := limbs_lt (f := subl) sub_lt a b 8
  rw [← M_eq] at h hl
  rw [Nat.mod_eq_of_lt ha, Nat.mod_eq_of_lt hb] at h
  obtain ⟨h1, h2⟩ := hl
  generalize limbs subl a b 8 = r at *
  have : r.2 = 0 ∨ r.2 = 1 := by omega
  rcases this with e | e <;> rw [e] at h ⊢
  · refine ⟨?_, by simp; omega⟩
    rw [show a + M - b = r.1 + M by omega, Nat.add_mod_right, Nat.mod_eq_of_lt h1]
  · refine ⟨?_, by simp; omega⟩
    rw [show a + M - b = r.1 by omega, Nat.mod_eq_of_lt h1]

theorem wide_Sub (a b : Nat) (ha : a < M) (hb : b < M) : Gives Tryz.prog 19 #[W a, W b] (.tuple #[W ((a + M - b) % M), .bool (decide (a < b))]) := by
  intro w0
  have hst := St.start [] w0
  have hboth := wide_both 37 gf37 subl sub_lt limb_Sub a b
  rw [(limbs_sub8 a b ha hb).1, (limbs_sub8 a b ha hb).2] at hboth
  go_enter Tryz.func19, Tryz.ntmps19
  go_wp2_with ((first | (refine kf gf36 hst (hboth) rfl rfl rfl rfl ?_; clear hst; intro w hst) | (refine kb 2 hst rfl rfl ?_; clear hst; intro b2 w hb2 hst) | (refine kb 3 hst rfl rfl ?_; clear hst; intro b3 w hb3 hst) | (refine ka 4 hst tz34 rfl rfl ?_; clear hst; intro b4 w hb4 hst) | (refine kl hst ta34 rfl ?_) | (refine kt hst ta34 rfl rfl ?_; clear hst; intro w hst)); try simp only [pz, pn, sz, sc])
  refine bp_ct rfl rfl (la hst ta34) (by rfl) ⟨?_, hst.keeps⟩
  rfl

/-- The cells of a word's number: those above, those below. -/
def wdc (m : Nat) : Array Value := #[.int .u64 (lb m 1 : Nat), .int .u64 (lb m 0 : Nat)]
/-- The value of a word. -/
def Wd (m : Nat) : Value := .agg (wdc m)
/-- As great as a word may be. -/
def M2 : Nat := B ^ 2
theorem M2_le : M2 ≤ M := Nat.pow_le_pow_right B_pos (by omega)
theorem Wd_cells (m : Nat) : (Wd m).cells = wdc m := rfl
theorem Wd_zero : Wd 0 = .agg #[.int .u64 0, .int .u64 0] := by kernel_rfl
theorem wdc_one (m : Nat) : (wdc m).all (·.oneCell') = true := by kernel_rfl
theorem wdc_1 (m : Nat) : (wdc m)[1]? = some (.int .u64 (lb m 0 : Nat)) := rfl
theorem wdc_0 (m : Nat) : (wdc m)[0]? = some (.int .u64 (lb m 1 : Nat)) := rfl
theorem wdc_inj {m n : Nat} (hm : m < M2) (hn : n < M2) (h1 : lb m 1 = lb n 1) (h0 : lb m 0 = lb n 0) : m = n := by
  have := lb_inj (k := 2) (n := m) (m := n) (fun i hi => by
    have : i = 0 ∨ i = 1 := by omega
    rcases this with e | e <;> rw [e] <;> assumption)
  rwa [Nat.mod_eq_of_lt (show m < B ^ 2 from hm), Nat.mod_eq_of_lt (show n < B ^ 2 from hn)] at this
theorem lb_join (n : Nat) : lb n 0 + lb n 1 * B = n % M2 := by
  have := lb_split n 1
  rw [Nat.pow_one] at this
  rw [show M2 = B ^ (1 + 1) from rfl, this, lb_zero]
theorem lb_low (n i : Nat) (hi : i < 2) : lb (n % M2) i = lb n i := by
  have := lb_part n 0 2 i hi
  rw [Nat.pow_zero, Nat.div_one, Nat.zero_add] at this
  exact this

theorem wide_Low (n : Nat) : Gives Tryz.prog 25 #[W n] (Wd (n % M2)) := by
  intro w0
  have hst := St.start [] w0
  have e1 : wdc (n % M2) = #[.int .u64 (lb n 1 : Nat), .int .u64 (lb n 0 : Nat)] := by unfold wdc; rw [lb_low n 1 (by omega), lb_low n 0 (by omega)]
  go_enter Tryz.func25, Tryz.ntmps25
  go_wp2_with ((first | (refine kb 1 hst rfl rfl ?_; clear hst; intro b1 w hb1 hst) | (refine ka 2 hst tz24 rfl rfl ?_; clear hst; intro b2 w hb2 hst) | (refine kc hst tc22 rfl ?_) | (refine kt hst ta24 rfl rfl ?_; clear hst; intro w hst)); try simp only [pz, pn, sz, sc])
  refine bp_c rfl rfl (la hst ta24) ⟨?_, hst.keeps⟩
  rw [← e1]; rfl

theorem wide_From (m : Nat) (hm : m < M2) : Gives Tryz.prog 21 #[Wd m] (W m) := by
  intro w0
  have hst := St.start [] w0
  have hof := fun b w h => wide_Of b 0 2 2 2 m 22 (0, 0) (by omega) w h
  have e1 := wc_2 (lb m 0) (lb m 1) (lb_lt _ _) (lb_lt _ _)
  rw [lb_join, Nat.mod_eq_of_lt hm] at e1
  rw [Nat.pow_zero, Nat.div_one, show min 2 8 = 2 from rfl, show m % B ^ 2 = m from Nat.mod_eq_of_lt hm] at hof
  have e1' := Lib.hid e1
  clear e1
  have g1 := wdc_1 m
  have g0 := wdc_0 m
  go_enter Tryz.func21, Tryz.ntmps21
  go_wp2_with ((first | (refine kg gf20 hst (fun w hst => hof _ w (by rw [← e1'.out]; exact hst.own _ _ (by simp))) rfl rfl rfl rfl ?_; clear hst; intro w hst) | (refine kb 1 hst rfl rfl ?_; clear hst; intro b1 w hb1 hst) | (refine ka 2 hst tz34 rfl rfl ?_; clear hst; intro b2 w hb2 hst) | (refine kc hst tc22 rfl ?_) | (refine wl_slice2 (o := ⟨some 7, _, _, _, _, _⟩) hst ts66 te22 rfl rfl (by (simp only [eval_lit, eval_k, eval_f, eval_g, List.getD_cons_succ, List.getD_cons_zero]) <;> rfl) (by (simp only [eval_lit, eval_k, eval_f, eval_g, List.getD_cons_succ, List.getD_cons_zero]) <;> rfl) (by rfl) (by rfl) ?_; clear hst; intro b7 w hb7 hst) | (refine kt hst ta34 rfl rfl ?_; clear hst; intro w hst)); try simp only [pz, pn, sz, sc])
  refine bp_c rfl rfl (la hst ta34) ⟨?_, hst.keeps⟩
  rfl

end Go.Proofs.YtojjmcghcgidlaaGreatDoor.Rd
