/- What the layer class answers: the classes of words, their signs, fields, fractions. -/
import Derived.Test.YtefpoconpeggpaaGreatDoorK06
namespace Go.Proofs.YtefpoconpeggpaaGreatDoor.Rd
open Go Go.RowKit
set_option linter.unusedVariables false
set_option linter.unusedSimpArgs false
set_option maxRecDepth 100000

theorem bits_and_i64 (a b : Nat) (ha : a < 9223372036854775808) (hb : b < 9223372036854775808) : bits .and .i64 (a : Int) (b : Int) = ((a &&& b : Nat) : Int) := by
  have hx : a &&& b < 2 ^ 63 := Nat.and_lt_two_pow _ (by omega)
  have h1 : (BitVec.ofInt 64 (a : Int)).toNat = a := by
    rw [BitVec.ofInt_natCast, BitVec.toNat_ofNat]; exact Nat.mod_eq_of_lt (by omega)
  have h2 : (BitVec.ofInt 64 (b : Int)).toNat = b := by
    rw [BitVec.ofInt_natCast, BitVec.toNat_ofNat]; exact Nat.mod_eq_of_lt (by omega)
  show IntKind.i64.wrap ((BitVec.ofInt 64 (a : Int) &&& BitVec.ofInt 64 (b : Int)).toNat : Int) = _
  rw [BitVec.toNat_and, h1, h2, IntKind.wrap_i64]
  omega

/-- The cells of a word's parts. -/
def ptC (f m : Nat) : Array Value := fmC f ++ (#[.bool (wNeg f m), .int .i64 (wField f m : Nat)] ++ wc 8 (wFrac f m))
theorem ptC_size (f m : Nat) : (ptC f m).size = 15 := by simp [ptC, fmC]
theorem ptC_one (f m : Nat) : OneC (ptC f m) := ⟨by unfold ptC; rw [Array.all_append, Array.all_append, wc_one]; simp [fmC, Value.oneCell']⟩

theorem wNeg_bit (f m : Nat) (h : m < 2 ^ fB f) : m.testBit (fB f - 1) = wNeg f m := by
  have hb := fB_in f
  obtain ⟨k, hk⟩ : ∃ k, fB f = k + 1 := ⟨fB f - 1, by omega⟩
  unfold wNeg
  rw [hk] at h ⊢
  rw [Nat.add_sub_cancel, Nat.testBit_eq_decide_div_mod_eq]
  have hp : 0 < 2 ^ k := Nat.pow_pos (by omega)
  rw [Nat.pow_succ] at h
  by_cases h' : 2 ^ k ≤ m
  · have : m / 2 ^ k = 1 := Nat.div_eq_of_lt_le (by omega) (by omega)
    simp [this, h']
  · rw [Nat.div_eq_of_lt (by omega)]; simp [h']
theorem wHigh (f m : Nat) (h : m < 2 ^ fB f) : m / 2 ^ (fP f - 1) < 2 ^ (fK f + 1) := by
  have hp := fP_in f
  rw [Nat.div_lt_iff_lt_mul (Nat.pow_pos (by omega)), ← Nat.pow_add, show fK f + 1 + (fP f - 1) = fB f by rw [fBPK]; omega]
  exact h

theorem build_parts (f : Nat) (b : Bool) (x : Int) (n : Nat) (w : World) : (Instr.build 222 (List.toArray [(0, .agg (fmC f)), (1, .bool b), (2, .int .i64 x), (3, W n)])).run Tryz.prog w = .ok (.agg (fmC f ++ (#[.bool b, .int .i64 x] ++ wc 8 n))) w := by kernel_rfl

set_option maxHeartbeats 4000000 in
theorem ask_int (f : Nat) (h1 : 1 ≤ f) (h4 : f ≤ 4) (m : Nat) (hm : m < 2 ^ fB f) (g : FuncId) (hg : GoF Tryz.prog g) (x : Int) (w0 : World) (hF : FmtIn w0)
    (hgv : ∀ w, Keeps [] w0 w → GivesAt Tryz.prog g #[.agg (ptC f m)] (.int .i64 x) w) : GivesAt Tryz.prog 152 #[.int .i64 f, Wd m, .func (.func g) #[] #[]] (.int .i64 x) w0 := by
  have hst := St.start [] w0
  have hk := Lib.hid (fun w (k : Keeps [] w0 w) => hF.keep k (by simp))
  have hm2 : m < M2 := Nat.lt_of_lt_of_le hm (by
    have := (fB_in f).2
    exact Nat.pow_le_pow_right (by omega) this)
  have hfit := fun w h => format_Fits f h1 h4 m hm2 w h
  rw [decide_eq_true hm] at hfit
  have hof := fun w h => format_Of f h1 h4 w h
  have hfr := wide_From m hm2
  have hmM : m < M := Nat.lt_of_lt_of_le hm2 (by rw [M_eq]; exact Nat.pow_le_pow_right B_pos (by omega))
  have hp := fP_in f
  have hb := fB_in f
  have hK := fK_in f
  have hhi := wHigh f m hm
  have hshr := wide_Shr m (fP f - 1 : Nat) hmM
  rw [clampN_nat _ (by omega)] at hshr
  have hle : m / 2 ^ (fP f - 1) * 2 ^ (fP f - 1) ≤ m := Nat.div_mul_le_self _ _
  have hshl := wide_Shl (m / 2 ^ (fP f - 1)) (fP f - 1 : Nat) (Nat.lt_of_le_of_lt (Nat.div_le_self _ _) hmM)
  rw [clampN_nat _ (by omega), Nat.mod_eq_of_lt (Nat.lt_of_le_of_lt hle hmM)] at hshl
  have hsub := wide_Sub m (m / 2 ^ (fP f - 1) * 2 ^ (fP f - 1)) hmM (Nat.lt_of_le_of_lt hle hmM)
  have hfrac : (m + M - m / 2 ^ (fP f - 1) * 2 ^ (fP f - 1)) % M = wFrac f m := by
    unfold wFrac
    have hd := Nat.div_add_mod m (2 ^ (fP f - 1))
    rw [Nat.mul_comm] at hd
    rw [show m + M - m / 2 ^ (fP f - 1) * 2 ^ (fP f - 1) = m % 2 ^ (fP f - 1) + M by omega, Nat.add_mod_right, Nat.mod_eq_of_lt (by omega)]
  rw [hfrac] at hsub
  have hbit := wide_Bit m (fB f - 1) hmM (by omega)
  rw [wNeg_bit f m hm] at hbit
  have hfield : bits .and .i64 ((m / 2 ^ (fP f - 1) : Nat) : Int) ((2 ^ fK f - 1 : Nat) : Int) = (wField f m : Int) := by
    have a1 : 2 ^ (fK f + 1) ≤ 2 ^ 16 := Nat.pow_le_pow_right (by omega) (by omega)
    have a2 : 2 ^ fK f ≤ 2 ^ 16 := Nat.pow_le_pow_right (by omega) (by omega)
    rw [bits_and_i64 _ _ (by omega) (by omega), Nat.and_two_pow_sub_one_eq_mod]
    rfl
  have hhB : m / 2 ^ (fP f - 1) < 65536 + 1 := by
    have a1 : 2 ^ (fK f + 1) ≤ 2 ^ 16 := Nat.pow_le_pow_right (by omega) (by omega)
    omega
  have hlb : lb (m / 2 ^ (fP f - 1)) 0 = m / 2 ^ (fP f - 1) := by rw [lb_zero, Nat.mod_eq_of_lt (by rw [B_val]; omega)]
  have hpow : (2 : Int) ^ fK f - 1 = ((2 ^ fK f - 1 : Nat) : Int) := by
    have : 0 < 2 ^ fK f := Nat.pow_pos (by omega)
    rw [Int.natCast_sub (by omega)]; simp
  have hpw : 2 ^ fK f ≤ 65536 := by
    have a2 : 2 ^ fK f ≤ 2 ^ 16 := Nat.pow_le_pow_right (by omega) (by omega)
    omega
  have A1 : IntKind.i64.wrap ((m / 2 ^ (fP f - 1) : Nat) : Int) = ((m / 2 ^ (fP f - 1) : Nat) : Int) := by rw [IntKind.wrap_i64]; omega
  have A2 : IntKind.i64.wrap ((2 : Int) ^ fK f) = (2 : Int) ^ fK f := by rw [show (2 : Int) ^ fK f = ((2 ^ fK f - 1 : Nat) : Int) + 1 by omega, IntKind.wrap_i64]; omega
  have A3 : IntKind.i64.wrap ((2 : Int) ^ fK f - 1) = ((2 ^ fK f - 1 : Nat) : Int) := by rw [hpow, IntKind.wrap_i64]; omega
  clear hpow
  have c1 : ((fP f - 1 : Nat) : Int) = (fP f : Int) - 1 := by omega
  have c2 : ((fB f - 1 : Nat) : Int) = (fB f : Int) - 1 := by omega
  rw [c1] at hshr hshl
  rw [c2] at hbit
  have z1 := fmC_size f
  have z2 := fmC_one f
  have g0 : (fmC f)[0]? = some (.int .i64 (fB f : Nat)) := rfl
  have g1 : (fmC f)[0 + 1]? = some (.int .i64 (fP f : Nat)) := rfl
  have g4 : (fmC f)[0 + 4]? = some (.int .i64 (fK f : Nat)) := rfl
  have y1 := ptC_size f m
  have y2 := ptC_one f m
  have hpt : ptC f m = fmC f ++ (#[.bool (wNeg f m), .int .i64 (wField f m : Nat)] ++ wc 8 (wFrac f m)) := rfl
  have hgv' := Lib.hid hgv
  have hw1 : IntKind.i64.wrap ((fP f : Int) - 1) = (fP f : Int) - 1 := by rw [IntKind.wrap_i64]; omega
  have hw2 : IntKind.i64.wrap ((fB f : Int) - 1) = (fB f : Int) - 1 := by rw [IntKind.wrap_i64]; omega
  have hbp := fun w => build_parts f (wNeg f m) (wField f m : Nat) (wFrac f m) w
  rw [← hpt] at hbp
  clear hF hm hm2 hmM hhi hle hfrac hgv c1 c2 hpt
  generalize ptC f m = ps at *
  generalize m / 2 ^ (fP f - 1) * 2 ^ (fP f - 1) = hx at *
  generalize m / 2 ^ (fP f - 1) = hi' at *
  generalize wFrac f m = fr at *
  generalize wField f m = fld at *
  generalize wNeg f m = ng at *
  generalize fmC f = cs at *
  go_enter Tryz.func152, Tryz.ntmps152
  go_wp2_with ((first | (refine kg gf169 hst (fun w hst => hfit w (hk.out w hst.keeps)) rfl rfl rfl rfl ?_; clear hst; intro w hst) | (refine kg gf70 hst (fun w hst => hof w (hk.out w hst.keeps)) rfl rfl rfl rfl ?_; clear hst; intro w hst) | (refine kf gf170 hst (hfr) rfl rfl rfl rfl ?_; clear hst; intro w hst) | (refine kf gf87 hst (hshr) rfl rfl rfl rfl ?_; clear hst; intro w hst) | (refine kb 4 hst rfl rfl ?_; clear hst; intro b4 w hb4 hst) | (refine kl hst ta24 rfl ?_) | (refine ka 8 hst tz128 rfl rfl ?_; clear hst; intro b8 w hb8 hst) | (refine kt hst ta128 rfl rfl ?_; clear hst; intro w hst) | (refine ka 10 hst tz44 rfl rfl ?_; clear hst; intro b10 w hb10 hst) | (refine kt hst ta44 rfl rfl ?_; clear hst; intro w hst) | (refine kl hst ta44 rfl ?_) | (refine kc hst tc3 rfl ?_) | (refine ka 11 hst tz44 rfl rfl ?_; clear hst; intro b11 w hb11 hst)); try simp only [pz, pn, sz, sc])
  refine wp_region_T 11  hst (by kernel_rfl) ?_; clear hst; intro w hst; (try simp only [List.length_cons, List.length_nil, Nat.reduceAdd, Array.replicate_succ, Array.replicate_zero, List.push_toArray, List.nil_append, List.cons_append])
  refine r0 2 ?_; simp only [pz, pn, sz, sc, hw1]
  refine rl 0 rfl ?_ (by first | exact ylA ta44 | exact ylM ta44); simp only [pz, pn, sz, sc, hw1]
  refine rl 1 rfl ?_ (by first | exact ylA ta44 | exact ylM ta44); simp only [pz, pn, sz, sc, hw1]
  refine rl 3 rfl ?_ (ylC tc3); simp only [pz, pn, sz, sc, hw1]
  refine r0 4 ?_; simp only [pz, pn, sz, sc, hw1]
  refine r2 5 10 ?_ ?_
  (refine kf gf48 hst (hshl) rfl rfl rfl rfl ?_; clear hst; intro w hst); (try simp only [pz, pn, sz, sc, hw1]); refine re ?_
  refine r2 6 10 ?_ ?_
  (refine kf gf122 hst (hsub) rfl rfl rfl rfl ?_; clear hst; intro w hst); (try simp only [pz, pn, sz, sc, hw1]); refine re ?_
  refine r0 7 ?_; simp only [pz, pn, sz, sc, hw1]
  refine r0 8 ?_; simp only [pz, pn, sz, sc, hw1]
  refine r0 9 ?_; simp only [pz, pn, sz, sc, hw1]
  refine r1 10 ?_; (refine ka 13 hst tz44 rfl rfl ?_; clear hst; intro b13 w hb13 hst); (try simp only [pz, pn, sz, sc, hw1]); refine re ?_
  refine r1 11 ?_; (refine kt hst ta44 rfl rfl ?_; clear hst; intro w hst); (try simp only [pz, pn, sz, sc, hw1]); refine re ?_
  refine r0 12 ?_; simp only [pz, pn, sz, sc, hw1]
  refine rd_ ?_
  rotate_left 1
  (refine ka 13 hst tz44 rfl rfl ?_; clear hst; intro b13 w hb13 hst); (try simp only [pz, pn, sz, sc, hw1]); refine re ?_
  refine r1 6 ?_; (refine kf gf122 hst (hsub) rfl rfl rfl rfl ?_; clear hst; intro w hst); (try simp only [pz, pn, sz, sc, hw1]); refine re ?_
  refine r0 7 ?_; simp only [pz, pn, sz, sc, hw1]
  refine r0 8 ?_; simp only [pz, pn, sz, sc, hw1]
  refine r0 9 ?_; simp only [pz, pn, sz, sc, hw1]
  refine r1 11 ?_; (refine kt hst ta44 rfl rfl ?_; clear hst; intro w hst); (try simp only [pz, pn, sz, sc, hw1]); refine re ?_
  refine r0 12 ?_; simp only [pz, pn, sz, sc, hw1]
  refine rd_ ?_
  rotate_right 1
  rotate_left 2
  (refine ka 13 hst tz44 rfl rfl ?_; clear hst; intro b13 w hb13 hst); (try simp only [pz, pn, sz, sc, hw1]); refine re ?_
  refine r1 5 ?_; (refine kf gf48 hst (hshl) rfl rfl rfl rfl ?_; clear hst; intro w hst); (try simp only [pz, pn, sz, sc, hw1]); refine re ?_
  refine r1 6 ?_; (refine kf gf122 hst (hsub) rfl rfl rfl rfl ?_; clear hst; intro w hst); (try simp only [pz, pn, sz, sc, hw1]); refine re ?_
  refine r0 7 ?_; simp only [pz, pn, sz, sc, hw1]
  refine r0 8 ?_; simp only [pz, pn, sz, sc, hw1]
  refine r0 9 ?_; simp only [pz, pn, sz, sc, hw1]
  refine r1 11 ?_; (refine kt hst ta44 rfl rfl ?_; clear hst; intro w hst); (try simp only [pz, pn, sz, sc, hw1]); refine re ?_
  refine r0 12 ?_; simp only [pz, pn, sz, sc, hw1]
  refine rd_ ?_
  rotate_right 2
  all_goals
    go_wp2_with fail
    refine wp_region_T 9  hst (by kernel_rfl) ?_; clear hst; intro w hst; (try simp only [List.length_cons, List.length_nil, Nat.reduceAdd, Array.replicate_succ, Array.replicate_zero, List.push_toArray, List.nil_append, List.cons_append])
    refine r0 0 ?_; simp only [pz, pn, sz, sc, A1, A2, A3, hfield]
    refine r0 3 ?_; simp only [pz, pn, sz, sc, A1, A2, A3, hfield]
    refine rl 1 rfl ?_ (ylC tc22); simp only [pz, pn, sz, sc, A1, A2, A3, hfield]
    refine r0 2 ?_; simp only [pz, pn, sz, sc, A1, A2, A3, hfield]
    refine rl 4 rfl ?_ (ylC tc3); simp only [pz, pn, sz, sc, A1, A2, A3, hfield]
    refine r0 5 ?_; simp only [pz, pn, sz, sc, A1, A2, A3, hfield]
    refine r0 6 ?_; simp only [pz, pn, sz, sc, A1, A2, A3, hfield]
    refine r0 7 ?_; simp only [pz, pn, sz, sc, A1, A2, A3, hfield]
    refine r0 8 ?_; simp only [pz, pn, sz, sc, A1, A2, A3, hfield]
    refine rd_ ?_
    go_wp2_with fail
    refine wp_region_T 12  hst (by kernel_rfl) ?_; clear hst; intro w hst; (try simp only [List.length_cons, List.length_nil, Nat.reduceAdd, Array.replicate_succ, Array.replicate_zero, List.push_toArray, List.nil_append, List.cons_append])
    refine r0 0 ?_; simp only [pz, pn, sz, sc, hw2]
    refine r0 3 ?_; simp only [pz, pn, sz, sc, hw2]
    refine r0 7 ?_; simp only [pz, pn, sz, sc, hw2]
    refine rl 1 rfl ?_ (by first | exact ylA ta128 | exact ylM ta128); simp only [pz, pn, sz, sc, hw2]
    refine rl 2 rfl ?_ (by first | exact ylA ta44 | exact ylM ta44); simp only [pz, pn, sz, sc, hw2]
    refine rl 4 rfl ?_ (ylC tc3); simp only [pz, pn, sz, sc, hw2]
    refine r0 5 ?_; simp only [pz, pn, sz, sc, hw2]
    refine rl 8 rfl ?_ (by first | exact ylA ta44 | exact ylM ta44); simp only [pz, pn, sz, sc, hw2]
    refine r1 6 ?_; (refine kf gf86 hst (hbit) rfl rfl rfl rfl ?_; clear hst; intro w hst); (try simp only [pz, pn, sz, sc, hw2]); refine re ?_
    refine r0 9 ?_ (hy := yB (hbp)); simp only [pz, pn, sz, sc, hw2]
    refine r1 10 ?_; (refine kg hg hst (fun w hst => hgv'.out w hst.keeps) rfl rfl rfl rfl ?_; clear hst; intro w hst); (try simp only [pz, pn, sz, sc, hw2]); refine re ?_
    refine r0 11 ?_; simp only [pz, pn, sz, sc, hw2]
    refine rd_ ?_
    go_wp2_with fail
    refine bp_t rfl rfl (by rfl) ⟨?_, hst.keeps⟩
    rfl

end Go.Proofs.YtefpoconpeggpaaGreatDoor.Rd

namespace Go.Proofs.YtefpoconpeggpaaGreatDoor.Rd
open Go Go.RowKit
set_option linter.unusedVariables false
set_option linter.unusedSimpArgs false
set_option maxRecDepth 100000

set_option maxHeartbeats 4000000 in
theorem ask_wide (f : Nat) (h1 : 1 ≤ f) (h4 : f ≤ 4) (m : Nat) (hm : m < 2 ^ fB f) (g : FuncId) (hg : GoF Tryz.prog g) (x : Nat) (w0 : World) (hF : FmtIn w0)
    (hgv : ∀ w, Keeps [] w0 w → GivesAt Tryz.prog g #[.agg (ptC f m)] (W x) w) : GivesAt Tryz.prog 154 #[.int .i64 f, Wd m, .func (.func g) #[] #[]] (W x) w0 := by
  have hst := St.start [] w0
  have hk := Lib.hid (fun w (k : Keeps [] w0 w) => hF.keep k (by simp))
  have hm2 : m < M2 := Nat.lt_of_lt_of_le hm (by
    have := (fB_in f).2
    exact Nat.pow_le_pow_right (by omega) this)
  have hfit := fun w h => format_Fits f h1 h4 m hm2 w h
  rw [decide_eq_true hm] at hfit
  have hof := fun w h => format_Of f h1 h4 w h
  have hfr := wide_From m hm2
  have hmM : m < M := Nat.lt_of_lt_of_le hm2 (by rw [M_eq]; exact Nat.pow_le_pow_right B_pos (by omega))
  have hp := fP_in f
  have hb := fB_in f
  have hK := fK_in f
  have hhi := wHigh f m hm
  have hshr := wide_Shr m (fP f - 1 : Nat) hmM
  rw [clampN_nat _ (by omega)] at hshr
  have hle : m / 2 ^ (fP f - 1) * 2 ^ (fP f - 1) ≤ m := Nat.div_mul_le_self _ _
  have hshl := wide_Shl (m / 2 ^ (fP f - 1)) (fP f - 1 : Nat) (Nat.lt_of_le_of_lt (Nat.div_le_self _ _) hmM)
  rw [clampN_nat _ (by omega), Nat.mod_eq_of_lt (Nat.lt_of_le_of_lt hle hmM)] at hshl
  have hsub := wide_Sub m (m / 2 ^ (fP f - 1) * 2 ^ (fP f - 1)) hmM (Nat.lt_of_le_of_lt hle hmM)
  have hfrac : (m + M - m / 2 ^ (fP f - 1) * 2 ^ (fP f - 1)) % M = wFrac f m := by
    unfold wFrac
    have hd := Nat.div_add_mod m (2 ^ (fP f - 1))
    rw [Nat.mul_comm] at hd
    rw [show m + M - m / 2 ^ (fP f - 1) * 2 ^ (fP f - 1) = m % 2 ^ (fP f - 1) + M by omega, Nat.add_mod_right, Nat.mod_eq_of_lt (by omega)]
  rw [hfrac] at hsub
  have hbit := wide_Bit m (fB f - 1) hmM (by omega)
  rw [wNeg_bit f m hm] at hbit
  have hfield : bits .and .i64 ((m / 2 ^ (fP f - 1) : Nat) : Int) ((2 ^ fK f - 1 : Nat) : Int) = (wField f m : Int) := by
    have a1 : 2 ^ (fK f + 1) ≤ 2 ^ 16 := Nat.pow_le_pow_right (by omega) (by omega)
    have a2 : 2 ^ fK f ≤ 2 ^ 16 := Nat.pow_le_pow_right (by omega) (by omega)
    rw [bits_and_i64 _ _ (by omega) (by omega), Nat.and_two_pow_sub_one_eq_mod]
    rfl
  have hhB : m / 2 ^ (fP f - 1) < 65536 + 1 := by
    have a1 : 2 ^ (fK f + 1) ≤ 2 ^ 16 := Nat.pow_le_pow_right (by omega) (by omega)
    omega
  have hlb : lb (m / 2 ^ (fP f - 1)) 0 = m / 2 ^ (fP f - 1) := by rw [lb_zero, Nat.mod_eq_of_lt (by rw [B_val]; omega)]
  have hpow : (2 : Int) ^ fK f - 1 = ((2 ^ fK f - 1 : Nat) : Int) := by
    have : 0 < 2 ^ fK f := Nat.pow_pos (by omega)
    rw [Int.natCast_sub (by omega)]; simp
  have hpw : 2 ^ fK f ≤ 65536 := by
    have a2 : 2 ^ fK f ≤ 2 ^ 16 := Nat.pow_le_pow_right (by omega) (by omega)
    omega
  have A1 : IntKind.i64.wrap ((m / 2 ^ (fP f - 1) : Nat) : Int) = ((m / 2 ^ (fP f - 1) : Nat) : Int) := by rw [IntKind.wrap_i64]; omega
  have A2 : IntKind.i64.wrap ((2 : Int) ^ fK f) = (2 : Int) ^ fK f := by rw [show (2 : Int) ^ fK f = ((2 ^ fK f - 1 : Nat) : Int) + 1 by omega, IntKind.wrap_i64]; omega
  have A3 : IntKind.i64.wrap ((2 : Int) ^ fK f - 1) = ((2 ^ fK f - 1 : Nat) : Int) := by rw [hpow, IntKind.wrap_i64]; omega
  clear hpow
  have c1 : ((fP f - 1 : Nat) : Int) = (fP f : Int) - 1 := by omega
  have c2 : ((fB f - 1 : Nat) : Int) = (fB f : Int) - 1 := by omega
  rw [c1] at hshr hshl
  rw [c2] at hbit
  have z1 := fmC_size f
  have z2 := fmC_one f
  have g0 : (fmC f)[0]? = some (.int .i64 (fB f : Nat)) := rfl
  have g1 : (fmC f)[0 + 1]? = some (.int .i64 (fP f : Nat)) := rfl
  have g4 : (fmC f)[0 + 4]? = some (.int .i64 (fK f : Nat)) := rfl
  have y1 := ptC_size f m
  have y2 := ptC_one f m
  have hpt : ptC f m = fmC f ++ (#[.bool (wNeg f m), .int .i64 (wField f m : Nat)] ++ wc 8 (wFrac f m)) := rfl
  have hgv' := Lib.hid hgv
  have hw1 : IntKind.i64.wrap ((fP f : Int) - 1) = (fP f : Int) - 1 := by rw [IntKind.wrap_i64]; omega
  have hw2 : IntKind.i64.wrap ((fB f : Int) - 1) = (fB f : Int) - 1 := by rw [IntKind.wrap_i64]; omega
  have hbp := fun w => build_parts f (wNeg f m) (wField f m : Nat) (wFrac f m) w
  rw [← hpt] at hbp
  clear hF hm hm2 hmM hhi hle hfrac hgv c1 c2 hpt
  generalize ptC f m = ps at *
  generalize m / 2 ^ (fP f - 1) * 2 ^ (fP f - 1) = hx at *
  generalize m / 2 ^ (fP f - 1) = hi' at *
  generalize wFrac f m = fr at *
  generalize wField f m = fld at *
  generalize wNeg f m = ng at *
  generalize fmC f = cs at *
  go_enter Tryz.func154, Tryz.ntmps154
  go_wp2_with ((first | (refine kg gf169 hst (fun w hst => hfit w (hk.out w hst.keeps)) rfl rfl rfl rfl ?_; clear hst; intro w hst) | (refine kg gf70 hst (fun w hst => hof w (hk.out w hst.keeps)) rfl rfl rfl rfl ?_; clear hst; intro w hst) | (refine kf gf170 hst (hfr) rfl rfl rfl rfl ?_; clear hst; intro w hst) | (refine kf gf87 hst (hshr) rfl rfl rfl rfl ?_; clear hst; intro w hst) | (refine kb 4 hst rfl rfl ?_; clear hst; intro b4 w hb4 hst) | (refine ka 6 hst tz44 rfl rfl ?_; clear hst; intro b6 w hb6 hst) | (refine ka 7 hst tz44 rfl rfl ?_; clear hst; intro b7 w hb7 hst) | (refine kl hst ta24 rfl ?_) | (refine kl hst ta44 rfl ?_) | (refine kt hst ta44 rfl rfl ?_; clear hst; intro w hst) | (refine ka 8 hst tz128 rfl rfl ?_; clear hst; intro b8 w hb8 hst) | (refine kt hst ta128 rfl rfl ?_; clear hst; intro w hst) | (refine ka 10 hst tz44 rfl rfl ?_; clear hst; intro b10 w hb10 hst) | (refine kc hst tc3 rfl ?_) | (refine ka 11 hst tz44 rfl rfl ?_; clear hst; intro b11 w hb11 hst)); try simp only [pz, pn, sz, sc])
  refine wp_region_T 11  hst (by kernel_rfl) ?_; clear hst; intro w hst; (try simp only [List.length_cons, List.length_nil, Nat.reduceAdd, Array.replicate_succ, Array.replicate_zero, List.push_toArray, List.nil_append, List.cons_append])
  refine r0 2 ?_; simp only [pz, pn, sz, sc, hw1]
  refine rl 0 rfl ?_ (by first | exact ylA ta44 | exact ylM ta44); simp only [pz, pn, sz, sc, hw1]
  refine rl 1 rfl ?_ (by first | exact ylA ta44 | exact ylM ta44); simp only [pz, pn, sz, sc, hw1]
  refine rl 3 rfl ?_ (ylC tc3); simp only [pz, pn, sz, sc, hw1]
  refine r0 4 ?_; simp only [pz, pn, sz, sc, hw1]
  refine r2 5 10 ?_ ?_
  (refine kf gf48 hst (hshl) rfl rfl rfl rfl ?_; clear hst; intro w hst); (try simp only [pz, pn, sz, sc, hw1]); refine re ?_
  refine r2 6 10 ?_ ?_
  (refine kf gf122 hst (hsub) rfl rfl rfl rfl ?_; clear hst; intro w hst); (try simp only [pz, pn, sz, sc, hw1]); refine re ?_
  refine r0 7 ?_; simp only [pz, pn, sz, sc, hw1]
  refine r0 8 ?_; simp only [pz, pn, sz, sc, hw1]
  refine r0 9 ?_; simp only [pz, pn, sz, sc, hw1]
  refine r1 10 ?_; (refine ka 13 hst tz44 rfl rfl ?_; clear hst; intro b13 w hb13 hst); (try simp only [pz, pn, sz, sc, hw1]); refine re ?_
  refine r1 11 ?_; (refine kt hst ta44 rfl rfl ?_; clear hst; intro w hst); (try simp only [pz, pn, sz, sc, hw1]); refine re ?_
  refine r0 12 ?_; simp only [pz, pn, sz, sc, hw1]
  refine rd_ ?_
  rotate_left 1
  (refine ka 13 hst tz44 rfl rfl ?_; clear hst; intro b13 w hb13 hst); (try simp only [pz, pn, sz, sc, hw1]); refine re ?_
  refine r1 6 ?_; (refine kf gf122 hst (hsub) rfl rfl rfl rfl ?_; clear hst; intro w hst); (try simp only [pz, pn, sz, sc, hw1]); refine re ?_
  refine r0 7 ?_; simp only [pz, pn, sz, sc, hw1]
  refine r0 8 ?_; simp only [pz, pn, sz, sc, hw1]
  refine r0 9 ?_; simp only [pz, pn, sz, sc, hw1]
  refine r1 11 ?_; (refine kt hst ta44 rfl rfl ?_; clear hst; intro w hst); (try simp only [pz, pn, sz, sc, hw1]); refine re ?_
  refine r0 12 ?_; simp only [pz, pn, sz, sc, hw1]
  refine rd_ ?_
  rotate_right 1
  rotate_left 2
  (refine ka 13 hst tz44 rfl rfl ?_; clear hst; intro b13 w hb13 hst); (try simp only [pz, pn, sz, sc, hw1]); refine re ?_
  refine r1 5 ?_; (refine kf gf48 hst (hshl) rfl rfl rfl rfl ?_; clear hst; intro w hst); (try simp only [pz, pn, sz, sc, hw1]); refine re ?_
  refine r1 6 ?_; (refine kf gf122 hst (hsub) rfl rfl rfl rfl ?_; clear hst; intro w hst); (try simp only [pz, pn, sz, sc, hw1]); refine re ?_
  refine r0 7 ?_; simp only [pz, pn, sz, sc, hw1]
  refine r0 8 ?_; simp only [pz, pn, sz, sc, hw1]
  refine r0 9 ?_; simp only [pz, pn, sz, sc, hw1]
  refine r1 11 ?_; (refine kt hst ta44 rfl rfl ?_; clear hst; intro w hst); (try simp only [pz, pn, sz, sc, hw1]); refine re ?_
  refine r0 12 ?_; simp only [pz, pn, sz, sc, hw1]
  refine rd_ ?_
  rotate_right 2
  all_goals
    go_wp2_with fail
    refine wp_region_T 9  hst (by kernel_rfl) ?_; clear hst; intro w hst; (try simp only [List.length_cons, List.length_nil, Nat.reduceAdd, Array.replicate_succ, Array.replicate_zero, List.push_toArray, List.nil_append, List.cons_append])
    refine r0 0 ?_; simp only [pz, pn, sz, sc, A1, A2, A3, hfield]
    refine r0 3 ?_; simp only [pz, pn, sz, sc, A1, A2, A3, hfield]
    refine rl 1 rfl ?_ (ylC tc22); simp only [pz, pn, sz, sc, A1, A2, A3, hfield]
    refine r0 2 ?_; simp only [pz, pn, sz, sc, A1, A2, A3, hfield]
    refine rl 4 rfl ?_ (ylC tc3); simp only [pz, pn, sz, sc, A1, A2, A3, hfield]
    refine r0 5 ?_; simp only [pz, pn, sz, sc, A1, A2, A3, hfield]
    refine r0 6 ?_; simp only [pz, pn, sz, sc, A1, A2, A3, hfield]
    refine r0 7 ?_; simp only [pz, pn, sz, sc, A1, A2, A3, hfield]
    refine r0 8 ?_; simp only [pz, pn, sz, sc, A1, A2, A3, hfield]
    refine rd_ ?_
    go_wp2_with fail
    refine wp_region_T 11  hst (by kernel_rfl) ?_; clear hst; intro w hst; (try simp only [List.length_cons, List.length_nil, Nat.reduceAdd, Array.replicate_succ, Array.replicate_zero, List.push_toArray, List.nil_append, List.cons_append])
    refine r0 0 ?_; simp only [pz, pn, sz, sc, hw2]
    refine r0 3 ?_; simp only [pz, pn, sz, sc, hw2]
    refine r0 7 ?_; simp only [pz, pn, sz, sc, hw2]
    refine rl 1 rfl ?_ (by first | exact ylA ta128 | exact ylM ta128); simp only [pz, pn, sz, sc, hw2]
    refine rl 2 rfl ?_ (by first | exact ylA ta44 | exact ylM ta44); simp only [pz, pn, sz, sc, hw2]
    refine rl 4 rfl ?_ (ylC tc3); simp only [pz, pn, sz, sc, hw2]
    refine r0 5 ?_; simp only [pz, pn, sz, sc, hw2]
    refine rl 8 rfl ?_ (by first | exact ylA ta44 | exact ylM ta44); simp only [pz, pn, sz, sc, hw2]
    refine r1 6 ?_; (refine kf gf86 hst (hbit) rfl rfl rfl rfl ?_; clear hst; intro w hst); (try simp only [pz, pn, sz, sc, hw2]); refine re ?_
    refine r0 9 ?_ (hy := yB (hbp)); simp only [pz, pn, sz, sc, hw2]
    refine r1 10 ?_; (refine kg hg hst (fun w hst => hgv'.out w hst.keeps) rfl rfl rfl rfl ?_; clear hst; intro w hst); (try simp only [pz, pn, sz, sc, hw2]); refine re ?_
    refine r1 11 ?_; (refine kt hst ta44 rfl rfl ?_; clear hst; intro w hst); (try simp only [pz, pn, sz, sc, hw2]); refine re ?_
    refine rd_ ?_
    go_wp2_with fail
    refine bp_c rfl rfl (la hst ta44) ⟨?_, hst.keeps⟩
    rfl

set_option maxHeartbeats 4000000 in
theorem ask_bool (f : Nat) (h1 : 1 ≤ f) (h4 : f ≤ 4) (m : Nat) (hm : m < 2 ^ fB f) (g : FuncId) (hg : GoF Tryz.prog g) (x : Bool) (w0 : World) (hF : FmtIn w0)
    (hgv : ∀ w, Keeps [] w0 w → GivesAt Tryz.prog g #[.agg (ptC f m)] (.bool x) w) : GivesAt Tryz.prog 156 #[.int .i64 f, Wd m, .func (.func g) #[] #[]] (.bool x) w0 := by
  have hst := St.start [] w0
  have hk := Lib.hid (fun w (k : Keeps [] w0 w) => hF.keep k (by simp))
  have hm2 : m < M2 := Nat.lt_of_lt_of_le hm (by
    have := (fB_in f).2
    exact Nat.pow_le_pow_right (by omega) this)
  have hfit := fun w h => format_Fits f h1 h4 m hm2 w h
  rw [decide_eq_true hm] at hfit
  have hof := fun w h => format_Of f h1 h4 w h
  have hfr := wide_From m hm2
  have hmM : m < M := Nat.lt_of_lt_of_le hm2 (by rw [M_eq]; exact Nat.pow_le_pow_right B_pos (by omega))
  have hp := fP_in f
  have hb := fB_in f
  have hK := fK_in f
  have hhi := wHigh f m hm
  have hshr := wide_Shr m (fP f - 1 : Nat) hmM
  rw [clampN_nat _ (by omega)] at hshr
  have hle : m / 2 ^ (fP f - 1) * 2 ^ (fP f - 1) ≤ m := Nat.div_mul_le_self _ _
  have hshl := wide_Shl (m / 2 ^ (fP f - 1)) (fP f - 1 : Nat) (Nat.lt_of_le_of_lt (Nat.div_le_self _ _) hmM)
  rw [clampN_nat _ (by omega), Nat.mod_eq_of_lt (Nat.lt_of_le_of_lt hle hmM)] at hshl
  have hsub := wide_Sub m (m / 2 ^ (fP f - 1) * 2 ^ (fP f - 1)) hmM (Nat.lt_of_le_of_lt hle hmM)
  have hfrac : (m + M - m / 2 ^ (fP f - 1) * 2 ^ (fP f - 1)) % M = wFrac f m := by
    unfold wFrac
    have hd := Nat.div_add_mod m (2 ^ (fP f - 1))
    rw [Nat.mul_comm] at hd
    rw [show m + M - m / 2 ^ (fP f - 1) * 2 ^ (fP f - 1) = m % 2 ^ (fP f - 1) + M by omega, Nat.add_mod_right, Nat.mod_eq_of_lt (by omega)]
  rw [hfrac] at hsub
  have hbit := wide_Bit m (fB f - 1) hmM (by omega)
  rw [wNeg_bit f m hm] at hbit
  have hfield : bits .and .i64 ((m / 2 ^ (fP f - 1) : Nat) : Int) ((2 ^ fK f - 1 : Nat) : Int) = (wField f m : Int) := by
    have a1 : 2 ^ (fK f + 1) ≤ 2 ^ 16 := Nat.pow_le_pow_right (by omega) (by omega)
    have a2 : 2 ^ fK f ≤ 2 ^ 16 := Nat.pow_le_pow_right (by omega) (by omega)
    rw [bits_and_i64 _ _ (by omega) (by omega), Nat.and_two_pow_sub_one_eq_mod]
    rfl
  have hhB : m / 2 ^ (fP f - 1) < 65536 + 1 := by
    have a1 : 2 ^ (fK f + 1) ≤ 2 ^ 16 := Nat.pow_le_pow_right (by omega) (by omega)
    omega
  have hlb : lb (m / 2 ^ (fP f - 1)) 0 = m / 2 ^ (fP f - 1) := by rw [lb_zero, Nat.mod_eq_of_lt (by rw [B_val]; omega)]
  have hpow : (2 : Int) ^ fK f - 1 = ((2 ^ fK f - 1 : Nat) : Int) := by
    have : 0 < 2 ^ fK f := Nat.pow_pos (by omega)
    rw [Int.natCast_sub (by omega)]; simp
  have hpw : 2 ^ fK f ≤ 65536 := by
    have a2 : 2 ^ fK f ≤ 2 ^ 16 := Nat.pow_le_pow_right (by omega) (by omega)
    omega
  have A1 : IntKind.i64.wrap ((m / 2 ^ (fP f - 1) : Nat) : Int) = ((m / 2 ^ (fP f - 1) : Nat) : Int) := by rw [IntKind.wrap_i64]; omega
  have A2 : IntKind.i64.wrap ((2 : Int) ^ fK f) = (2 : Int) ^ fK f := by rw [show (2 : Int) ^ fK f = ((2 ^ fK f - 1 : Nat) : Int) + 1 by omega, IntKind.wrap_i64]; omega
  have A3 : IntKind.i64.wrap ((2 : Int) ^ fK f - 1) = ((2 ^ fK f - 1 : Nat) : Int) := by rw [hpow, IntKind.wrap_i64]; omega
  clear hpow
  have c1 : ((fP f - 1 : Nat) : Int) = (fP f : Int) - 1 := by omega
  have c2 : ((fB f - 1 : Nat) : Int) = (fB f : Int) - 1 := by omega
  rw [c1] at hshr hshl
  rw [c2] at hbit
  have z1 := fmC_size f
  have z2 := fmC_one f
  have g0 : (fmC f)[0]? = some (.int .i64 (fB f : Nat)) := rfl
  have g1 : (fmC f)[0 + 1]? = some (.int .i64 (fP f : Nat)) := rfl
  have g4 : (fmC f)[0 + 4]? = some (.int .i64 (fK f : Nat)) := rfl
  have y1 := ptC_size f m
  have y2 := ptC_one f m
  have hpt : ptC f m = fmC f ++ (#[.bool (wNeg f m), .int .i64 (wField f m : Nat)] ++ wc 8 (wFrac f m)) := rfl
  have hgv' := Lib.hid hgv
  have hw1 : IntKind.i64.wrap ((fP f : Int) - 1) = (fP f : Int) - 1 := by rw [IntKind.wrap_i64]; omega
  have hw2 : IntKind.i64.wrap ((fB f : Int) - 1) = (fB f : Int) - 1 := by rw [IntKind.wrap_i64]; omega
  have hbp := fun w => build_parts f (wNeg f m) (wField f m : Nat) (wFrac f m) w
  rw [← hpt] at hbp
  clear hF hm hm2 hmM hhi hle hfrac hgv c1 c2 hpt
  generalize ptC f m = ps at *
  generalize m / 2 ^ (fP f - 1) * 2 ^ (fP f - 1) = hx at *
  generalize m / 2 ^ (fP f - 1) = hi' at *
  generalize wFrac f m = fr at *
  generalize wField f m = fld at *
  generalize wNeg f m = ng at *
  generalize fmC f = cs at *
  go_enter Tryz.func156, Tryz.ntmps156
  go_wp2_with ((first | (refine kg gf169 hst (fun w hst => hfit w (hk.out w hst.keeps)) rfl rfl rfl rfl ?_; clear hst; intro w hst) | (refine kg gf70 hst (fun w hst => hof w (hk.out w hst.keeps)) rfl rfl rfl rfl ?_; clear hst; intro w hst) | (refine kf gf170 hst (hfr) rfl rfl rfl rfl ?_; clear hst; intro w hst) | (refine kf gf87 hst (hshr) rfl rfl rfl rfl ?_; clear hst; intro w hst) | (refine kb 4 hst rfl rfl ?_; clear hst; intro b4 w hb4 hst) | (refine kl hst ta24 rfl ?_) | (refine ka 8 hst tz128 rfl rfl ?_; clear hst; intro b8 w hb8 hst) | (refine kt hst ta128 rfl rfl ?_; clear hst; intro w hst) | (refine ka 10 hst tz44 rfl rfl ?_; clear hst; intro b10 w hb10 hst) | (refine kt hst ta44 rfl rfl ?_; clear hst; intro w hst) | (refine kl hst ta44 rfl ?_) | (refine kc hst tc3 rfl ?_) | (refine ka 11 hst tz44 rfl rfl ?_; clear hst; intro b11 w hb11 hst)); try simp only [pz, pn, sz, sc])
  refine wp_region_T 11  hst (by kernel_rfl) ?_; clear hst; intro w hst; (try simp only [List.length_cons, List.length_nil, Nat.reduceAdd, Array.replicate_succ, Array.replicate_zero, List.push_toArray, List.nil_append, List.cons_append])
  refine r0 2 ?_; simp only [pz, pn, sz, sc, hw1]
  refine rl 0 rfl ?_ (by first | exact ylA ta44 | exact ylM ta44); simp only [pz, pn, sz, sc, hw1]
  refine rl 1 rfl ?_ (by first | exact ylA ta44 | exact ylM ta44); simp only [pz, pn, sz, sc, hw1]
  refine rl 3 rfl ?_ (ylC tc3); simp only [pz, pn, sz, sc, hw1]
  refine r0 4 ?_; simp only [pz, pn, sz, sc, hw1]
  refine r2 5 10 ?_ ?_
  (refine kf gf48 hst (hshl) rfl rfl rfl rfl ?_; clear hst; intro w hst); (try simp only [pz, pn, sz, sc, hw1]); refine re ?_
  refine r2 6 10 ?_ ?_
  (refine kf gf122 hst (hsub) rfl rfl rfl rfl ?_; clear hst; intro w hst); (try simp only [pz, pn, sz, sc, hw1]); refine re ?_
  refine r0 7 ?_; simp only [pz, pn, sz, sc, hw1]
  refine r0 8 ?_; simp only [pz, pn, sz, sc, hw1]
  refine r0 9 ?_; simp only [pz, pn, sz, sc, hw1]
  refine r1 10 ?_; (refine ka 13 hst tz44 rfl rfl ?_; clear hst; intro b13 w hb13 hst); (try simp only [pz, pn, sz, sc, hw1]); refine re ?_
  refine r1 11 ?_; (refine kt hst ta44 rfl rfl ?_; clear hst; intro w hst); (try simp only [pz, pn, sz, sc, hw1]); refine re ?_
  refine r0 12 ?_; simp only [pz, pn, sz, sc, hw1]
  refine rd_ ?_
  rotate_left 1
  (refine ka 13 hst tz44 rfl rfl ?_; clear hst; intro b13 w hb13 hst); (try simp only [pz, pn, sz, sc, hw1]); refine re ?_
  refine r1 6 ?_; (refine kf gf122 hst (hsub) rfl rfl rfl rfl ?_; clear hst; intro w hst); (try simp only [pz, pn, sz, sc, hw1]); refine re ?_
  refine r0 7 ?_; simp only [pz, pn, sz, sc, hw1]
  refine r0 8 ?_; simp only [pz, pn, sz, sc, hw1]
  refine r0 9 ?_; simp only [pz, pn, sz, sc, hw1]
  refine r1 11 ?_; (refine kt hst ta44 rfl rfl ?_; clear hst; intro w hst); (try simp only [pz, pn, sz, sc, hw1]); refine re ?_
  refine r0 12 ?_; simp only [pz, pn, sz, sc, hw1]
  refine rd_ ?_
  rotate_right 1
  rotate_left 2
  (refine ka 13 hst tz44 rfl rfl ?_; clear hst; intro b13 w hb13 hst); (try simp only [pz, pn, sz, sc, hw1]); refine re ?_
  refine r1 5 ?_; (refine kf gf48 hst (hshl) rfl rfl rfl rfl ?_; clear hst; intro w hst); (try simp only [pz, pn, sz, sc, hw1]); refine re ?_
  refine r1 6 ?_; (refine kf gf122 hst (hsub) rfl rfl rfl rfl ?_; clear hst; intro w hst); (try simp only [pz, pn, sz, sc, hw1]); refine re ?_
  refine r0 7 ?_; simp only [pz, pn, sz, sc, hw1]
  refine r0 8 ?_; simp only [pz, pn, sz, sc, hw1]
  refine r0 9 ?_; simp only [pz, pn, sz, sc, hw1]
  refine r1 11 ?_; (refine kt hst ta44 rfl rfl ?_; clear hst; intro w hst); (try simp only [pz, pn, sz, sc, hw1]); refine re ?_
  refine r0 12 ?_; simp only [pz, pn, sz, sc, hw1]
  refine rd_ ?_
  rotate_right 2
  all_goals
    go_wp2_with fail
    refine wp_region_T 9  hst (by kernel_rfl) ?_; clear hst; intro w hst; (try simp only [List.length_cons, List.length_nil, Nat.reduceAdd, Array.replicate_succ, Array.replicate_zero, List.push_toArray, List.nil_append, List.cons_append])
    refine r0 0 ?_; simp only [pz, pn, sz, sc, A1, A2, A3, hfield]
    refine r0 3 ?_; simp only [pz, pn, sz, sc, A1, A2, A3, hfield]
    refine rl 1 rfl ?_ (ylC tc22); simp only [pz, pn, sz, sc, A1, A2, A3, hfield]
    refine r0 2 ?_; simp only [pz, pn, sz, sc, A1, A2, A3, hfield]
    refine rl 4 rfl ?_ (ylC tc3); simp only [pz, pn, sz, sc, A1, A2, A3, hfield]
    refine r0 5 ?_; simp only [pz, pn, sz, sc, A1, A2, A3, hfield]
    refine r0 6 ?_; simp only [pz, pn, sz, sc, A1, A2, A3, hfield]
    refine r0 7 ?_; simp only [pz, pn, sz, sc, A1, A2, A3, hfield]
    refine r0 8 ?_; simp only [pz, pn, sz, sc, A1, A2, A3, hfield]
    refine rd_ ?_
    go_wp2_with fail
    refine wp_region_T 12  hst (by kernel_rfl) ?_; clear hst; intro w hst; (try simp only [List.length_cons, List.length_nil, Nat.reduceAdd, Array.replicate_succ, Array.replicate_zero, List.push_toArray, List.nil_append, List.cons_append])
    refine r0 0 ?_; simp only [pz, pn, sz, sc, hw2]
    refine r0 3 ?_; simp only [pz, pn, sz, sc, hw2]
    refine r0 7 ?_; simp only [pz, pn, sz, sc, hw2]
    refine rl 1 rfl ?_ (by first | exact ylA ta128 | exact ylM ta128); simp only [pz, pn, sz, sc, hw2]
    refine rl 2 rfl ?_ (by first | exact ylA ta44 | exact ylM ta44); simp only [pz, pn, sz, sc, hw2]
    refine rl 4 rfl ?_ (ylC tc3); simp only [pz, pn, sz, sc, hw2]
    refine r0 5 ?_; simp only [pz, pn, sz, sc, hw2]
    refine rl 8 rfl ?_ (by first | exact ylA ta44 | exact ylM ta44); simp only [pz, pn, sz, sc, hw2]
    refine r1 6 ?_; (refine kf gf86 hst (hbit) rfl rfl rfl rfl ?_; clear hst; intro w hst); (try simp only [pz, pn, sz, sc, hw2]); refine re ?_
    refine r0 9 ?_ (hy := yB (hbp)); simp only [pz, pn, sz, sc, hw2]
    refine r1 10 ?_; (refine kg hg hst (fun w hst => hgv'.out w hst.keeps) rfl rfl rfl rfl ?_; clear hst; intro w hst); (try simp only [pz, pn, sz, sc, hw2]); refine re ?_
    refine r0 11 ?_; simp only [pz, pn, sz, sc, hw2]
    refine rd_ ?_
    go_wp2_with fail
    refine bp_t rfl rfl (by rfl) ⟨?_, hst.keeps⟩
    rfl

theorem ask_int_no (f : Nat) (h1 : 1 ≤ f) (h4 : f ≤ 4) (m : Nat) (hm2 : m < M2) (hm : ¬ m < 2 ^ fB f) (g : Value) (w0 : World) (hF : FmtIn w0) : GivesAt Tryz.prog 152 #[.int .i64 f, Wd m, g] (.int .i64 0) w0 := by
  have hst := St.start [] w0
  have hk := Lib.hid (fun w (k : Keeps [] w0 w) => hF.keep k (by simp))
  have hfit := fun w h => format_Fits f h1 h4 m hm2 w h
  rw [decide_eq_false hm] at hfit
  clear hF hm
  go_enter Tryz.func152, Tryz.ntmps152
  go_wp2_with ((first | (refine kg gf169 hst (fun w hst => hfit w (hk.out w hst.keeps)) rfl rfl rfl rfl ?_; clear hst; intro w hst) | (refine kb 4 hst rfl rfl ?_; clear hst; intro b4 w hb4 hst) | (refine kl hst ta24 rfl ?_)); try simp only [pz, pn, sz, sc])
  refine bp_t rfl rfl (by rfl) ⟨?_, hst.keeps⟩
  rfl

theorem ask_int_non (f : Int) (h : f < 1 ∨ 4 < f) (m : Nat) (g : Value) : Gives Tryz.prog 152 #[.int .i64 f, Wd m, g] (.int .i64 0) := by
  intro w0
  have hst := St.start [] w0
  have hfit := format_Fits_no f h m
  clear h
  go_enter Tryz.func152, Tryz.ntmps152
  go_wp2_with ((first | (refine kf gf169 hst (hfit) rfl rfl rfl rfl ?_; clear hst; intro w hst) | (refine kb 4 hst rfl rfl ?_; clear hst; intro b4 w hb4 hst) | (refine kl hst ta24 rfl ?_)); try simp only [pz, pn, sz, sc])
  refine bp_t rfl rfl (by rfl) ⟨?_, hst.keeps⟩
  rfl

end Go.Proofs.YtefpoconpeggpaaGreatDoor.Rd

namespace Go.Proofs.YtefpoconpeggpaaGreatDoor.Rd
open Go Go.RowKit
set_option linter.unusedVariables false
set_option linter.unusedSimpArgs false
set_option maxRecDepth 100000

theorem small_M2 (k : Nat) (h : k ≤ 500) : 2 ^ k < M := by
  have key : ∀ t, M = 2 ^ t → k < t → 2 ^ k < M := fun t e h => by rw [e]; exact Nat.pow_lt_pow_right (by omega) h
  exact key (64 * 8) (by rw [M_eq, show B = 2 ^ 64 from rfl, ← Nat.pow_mul]) (by omega)

/-- A word's class. -/
def clsN (f m : Nat) : Nat := if wField f m = 2 * fE f + 1 then (if wFrac f m = 0 then 3 else if (wFrac f m).testBit (fP f - 2) then 2 else 1) else if wField f m = 0 then (if wFrac f m = 0 then 6 else 5) else 4
theorem ptC_eq (f m : Nat) : ptC f m = (fmC f ++ #[.bool (wNeg f m), .int .i64 (wField f m : Nat)]) ++ wc 8 (wFrac f m) := by unfold ptC; rw [Array.append_assoc]
theorem ptC_at (f m : Nat) : (ptC f m)[0 + 1]? = some (.int .i64 (fP f : Nat)) ∧ (ptC f m)[0 + 2]? = some (.int .i64 (fE f : Nat)) ∧ (ptC f m)[0 + 5]? = some (.bool (wNeg f m)) ∧ (ptC f m)[0 + 6]? = some (.int .i64 (wField f m : Nat)) := by
  rw [ptC_eq]
  exact ⟨pre_get (cells_get rfl), pre_get (cells_get rfl), pre_get (cells_get rfl), pre_get (cells_get rfl)⟩
theorem ptC_frac (f m : Nat) : Part (ptC f m) (wc 8 (wFrac f m)) (ptC f m) (wc 8 (wFrac f m)) 7 := by
  rw [ptC_eq]
  exact part1 7 _ _ _ (by simp [fmC]) rfl

theorem class_Neg_1 (f m : Nat) : Gives Tryz.prog 157 #[.agg (ptC f m)] (.bool (wNeg f m)) := by
  intro w0
  have hst := St.start [] w0
  obtain ⟨_, _, g5, _⟩ := ptC_at f m
  have y1 := ptC_size f m
  have y2 := ptC_one f m
  generalize ptC f m = ps at *
  generalize wNeg f m = ng at *
  go_enter Tryz.func157, Tryz.ntmps157
  go_wp2_with ((first | (refine kb 1 hst rfl rfl ?_; clear hst; intro b1 w hb1 hst) | (refine kc hst tc4 rfl ?_)); try simp only [pz, pn, sz, sc])
  refine bp_t rfl rfl (by rfl) ⟨?_, hst.keeps⟩
  rfl

theorem class_Field_1 (f m : Nat) : Gives Tryz.prog 153 #[.agg (ptC f m)] (.int .i64 (wField f m : Nat)) := by
  intro w0
  have hst := St.start [] w0
  obtain ⟨_, _, _, g6⟩ := ptC_at f m
  have y1 := ptC_size f m
  have y2 := ptC_one f m
  generalize ptC f m = ps at *
  generalize wField f m = ng at *
  go_enter Tryz.func153, Tryz.ntmps153
  go_wp2_with ((first | (refine kb 1 hst rfl rfl ?_; clear hst; intro b1 w hb1 hst) | (refine kc hst tc3 rfl ?_)); try simp only [pz, pn, sz, sc])
  refine bp_t rfl rfl (by rfl) ⟨?_, hst.keeps⟩
  rfl

theorem class_Fraction_1 (f m : Nat) : Gives Tryz.prog 155 #[.agg (ptC f m)] (W (wFrac f m)) := by
  intro w0
  have hst := St.start [] w0
  have hp := ptC_frac f m
  have y1 := ptC_size f m
  have y2 := ptC_one f m
  generalize ptC f m = ps at *
  generalize wFrac f m = fr at *
  go_enter Tryz.func155, Tryz.ntmps155
  go_wp2_with ((first | (refine klm hst ta44 rfl ?_ (hc := hp)) | (refine kb 1 hst rfl rfl ?_; clear hst; intro b1 w hb1 hst) | (refine ka 2 hst tz44 rfl rfl ?_; clear hst; intro b2 w hb2 hst) | (refine kt hst ta44 rfl rfl ?_; clear hst; intro w hst)); try simp only [pz, pn, sz, sc])
  refine bp_c rfl rfl (la hst ta44) ⟨?_, hst.keeps⟩
  rfl

set_option maxHeartbeats 2000000 in
theorem class_kind (f m : Nat) : Gives Tryz.prog 168 #[.agg (ptC f m)] (.int .i64 (clsN f m : Nat)) := by
  intro w0
  have hst := St.start [] w0
  obtain ⟨g1, g2, _, g6⟩ := ptC_at f m
  have hp := ptC_frac f m
  have y1 := ptC_size f m
  have y2 := ptC_one f m
  have hP := fP_in f
  have hE := fE_in f
  have hfr : wFrac f m < M := Nat.lt_trans (wFrac_lt f m) (small_M2 (fP f - 1) (by omega))
  have hbit := wide_Bit (wFrac f m) (fP f - 2) hfr (by omega)
  rw [show ((fP f - 2 : Nat) : Int) = (fP f : Int) - 2 by omega] at hbit
  have hM := M_pos
  unfold clsN
  have hfld : wField f m < 65536 := Nat.lt_of_lt_of_le (Nat.mod_lt _ (Nat.pow_pos (by omega))) (Nat.le_trans (Nat.pow_le_pow_right (by omega) (fK_in f).2) (by decide))
  generalize ptC f m = ps at *
  generalize wFrac f m = fr at *
  generalize wField f m = fld at *
  generalize fP f = p at *
  generalize fE f = E at *
  by_cases hA : fld = 2 * E + 1
  · rw [if_pos hA]
    have qA : (fld : Int) = 2 * (E : Int) + 1 := by omega
    have QA : ((fld : Int) == 2 * (E : Int) + 1) = true := by simpa using qA
    clear hA
    by_cases h0 : fr = 0
    · rw [if_pos h0]
      have Q0 : decide (fr = 0) = true := by simpa using h0
      clear h0 qA
      go_enter Tryz.func168, Tryz.ntmps168
      go_wp2_with ((first | (refine klm hst ta44 rfl ?_ (hc := hp)) | (refine kb 1 hst rfl rfl ?_; clear hst; intro b1 w hb1 hst) | (refine ke tr44 tc22 rfl ?_) | (refine kc hst tc3 rfl ?_)); try simp only [pz, pn, sz, sc])
      refine bp_t rfl rfl (by rfl) ⟨?_, hst.keeps⟩
      rfl
    · rw [if_neg h0]
      have Q0 : decide (fr = 0) = false := by simpa using h0
      clear h0 qA
      cases hb : fr.testBit (p - 2)
      · rw [hb] at hbit
        clear hb
        go_enter Tryz.func168, Tryz.ntmps168
        go_wp2_with ((first | (refine klm hst ta44 rfl ?_ (hc := hp)) | (refine kf gf86 hst (hbit) rfl rfl rfl rfl ?_; clear hst; intro w hst) | (refine kb 1 hst rfl rfl ?_; clear hst; intro b1 w hb1 hst) | (refine ke tr44 tc22 rfl ?_) | (refine kc hst tc3 rfl ?_)); try simp only [pz, pn, sz, sc])
        refine bp_t rfl rfl (by rfl) ⟨?_, hst.keeps⟩
        rfl
      · rw [hb] at hbit
        clear hb
        go_enter Tryz.func168, Tryz.ntmps168
        go_wp2_with ((first | (refine klm hst ta44 rfl ?_ (hc := hp)) | (refine kf gf86 hst (hbit) rfl rfl rfl rfl ?_; clear hst; intro w hst) | (refine kb 1 hst rfl rfl ?_; clear hst; intro b1 w hb1 hst) | (refine ke tr44 tc22 rfl ?_) | (refine kc hst tc3 rfl ?_)); try simp only [pz, pn, sz, sc])
        refine bp_t rfl rfl (by rfl) ⟨?_, hst.keeps⟩
        rfl
  · rw [if_neg hA]
    have QA : ((fld : Int) == 2 * (E : Int) + 1) = false := by simp; omega
    clear hA
    by_cases hB : fld = 0
    · rw [if_pos hB]
      have QB : ((fld : Int) == 0) = true := by simp; omega
      clear hB
      by_cases h0 : fr = 0
      · rw [if_pos h0]
        have Q0 : decide (fr = 0) = true := by simpa using h0
        clear h0
        go_enter Tryz.func168, Tryz.ntmps168
        go_wp2_with ((first | (refine klm hst ta44 rfl ?_ (hc := hp)) | (refine kb 1 hst rfl rfl ?_; clear hst; intro b1 w hb1 hst) | (refine ke tr44 tc22 rfl ?_) | (refine kc hst tc3 rfl ?_)); try simp only [pz, pn, sz, sc])
        refine bp_t rfl rfl (by rfl) ⟨?_, hst.keeps⟩
        rfl
      · rw [if_neg h0]
        have Q0 : decide (fr = 0) = false := by simpa using h0
        clear h0
        go_enter Tryz.func168, Tryz.ntmps168
        go_wp2_with ((first | (refine klm hst ta44 rfl ?_ (hc := hp)) | (refine kb 1 hst rfl rfl ?_; clear hst; intro b1 w hb1 hst) | (refine ke tr44 tc22 rfl ?_) | (refine kc hst tc3 rfl ?_)); try simp only [pz, pn, sz, sc])
        refine bp_t rfl rfl (by rfl) ⟨?_, hst.keeps⟩
        rfl
    · rw [if_neg hB]
      have QB : ((fld : Int) == 0) = false := by simp; omega
      clear hB
      go_enter Tryz.func168, Tryz.ntmps168
      go_wp2_with ((first | (refine klm hst ta44 rfl ?_ (hc := hp)) | (refine kb 1 hst rfl rfl ?_; clear hst; intro b1 w hb1 hst) | (refine ke tr44 tc22 rfl ?_) | (refine kc hst tc3 rfl ?_)); try simp only [pz, pn, sz, sc])
      refine bp_t rfl rfl (by rfl) ⟨?_, hst.keeps⟩
      rfl

end Go.Proofs.YtefpoconpeggpaaGreatDoor.Rd
