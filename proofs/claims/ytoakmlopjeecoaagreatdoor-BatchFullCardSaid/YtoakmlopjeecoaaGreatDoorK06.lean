/- What unpack.Unpack, mode.Grows answer. -/
import Derived.Test.YtoakmlopjeecoaaGreatDoorK05
import Derived.Test.YtoakmlopjeecoaaGreatDoorK02
namespace Go.Proofs.YtoakmlopjeecoaaGreatDoor.Rd
set_option linter.unusedVariables false

/-- Does a word (without its sign) stand for a number? -/
def wFin (f m : Nat) : Bool := decide (wField f m ≤ 2 * fE f)
theorem wFin_iff (f m : Nat) (h : m < 2 ^ (fB f - 1)) : wFin f m = true ↔ m < (2 * fE f + 1) * 2 ^ (fP f - 1) := by
  unfold wFin
  rw [wField_lo f m h, decide_eq_true_eq, ← Nat.div_lt_iff_lt_mul (Nat.pow_pos (by omega))]
  omega
theorem fin_lt (f : Nat) : (2 * fE f + 1) * 2 ^ (fP f - 1) < 2 ^ (fB f - 1) := by
  have e : 2 ^ (fB f - 1) = 2 ^ fK f * 2 ^ (fP f - 1) := by rw [← Nat.pow_add, fBPK]; congr 1; have := fP_in f; omega
  rw [e, ← fE_pow]
  exact Nat.mul_lt_mul_of_pos_right (by omega) (Nat.pow_pos (by omega))
theorem find_exact (f : Nat) {m M' : Nat} (hm : m < 2 ^ (fB f - 1)) (hM : M' < (2 * fE f + 1) * 2 ^ (fP f - 1)) : (wFin f m = true ∧ wV f m ≤ wV f M') ↔ m ≤ M' := by
  have hl := fin_lt f
  rw [wFin_iff f m hm]
  constructor
  · rintro ⟨_, h⟩
    rcases Nat.lt_or_ge M' m with h' | h'
    · have := wV_lt_of_lt f hm h'; omega
    · exact h'
  · intro h
    exact ⟨by omega, wV_le_of_le f (by omega) h⟩

end Go.Proofs.YtoakmlopjeecoaaGreatDoor.Rd

namespace Go.Proofs.YtoakmlopjeecoaaGreatDoor.Rd
open Go Go.RowKit
set_option linter.unusedVariables false
set_option linter.unusedSimpArgs false
set_option maxRecDepth 100000

theorem bits_and_i64 (a b : Nat) (ha : a < 9223372036854775808) (hb : b < 9223372036854775808) : bits .and .i64 (a : Int) (b : Int) = ((a &&& b : Nat) : Int) := by
  have hx : a &&& b < 2 ^ 63 := Nat.and_lt_two_pow _ (by omega)
  have h1 : (BitVec.ofInt 64 (a : Int)).toNat = a := by
    rw [BitVec.ofInt_natCast, BitVec.toNat_ofNat]; exact Nat.mod_eq_of_lt (by omega)
  have h2 : (BitVec.ofInt 64 (b : Int)).toNat = b := by
    rw [BitVec.ofInt_natCast, BitVec.toNat_ofNat]; exact Nat.mod_eq_of_lt (by omega)
  show IntKind.i64.wrap ((BitVec.ofInt 64 (a : Int) &&& BitVec.ofInt 64 (b : Int)).toNat : Int) = _
  rw [BitVec.toNat_and, h1, h2, IntKind.wrap_i64]
  omega

/-- The cells of a word's parts. -/
def ptC (f m : Nat) : Array Value := fmC f ++ (#[.bool (wNeg f m), .int .i64 (wField f m : Nat)] ++ wc 8 (wFrac f m))
theorem ptC_size (f m : Nat) : (ptC f m).size = 15 := by simp [ptC, fmC]
theorem ptC_one (f m : Nat) : OneC (ptC f m) := ⟨by unfold ptC; rw [Array.all_append, Array.all_append, wc_one]; simp [fmC, Value.oneCell']⟩

theorem wNeg_bit (f m : Nat) (h : m < 2 ^ fB f) : m.testBit (fB f - 1) = wNeg f m := by
  have hb := fB_in f
  obtain ⟨k, hk⟩ : ∃ k, fB f = k + 1 := ⟨fB f - 1, by omega⟩
  unfold wNeg
  rw [hk] at h ⊢
  rw [Nat.add_sub_cancel, Nat.testBit_eq_decide_div_mod_eq]
  have hp : 0 < 2 ^ k := Nat.pow_pos (by omega)
  rw [Nat.pow_succ] at h
  by_cases h' : 2 ^ k ≤ m
  · have : m / 2 ^ k = 1 := Nat.div_eq_of_lt_le (by omega) (by omega)
    simp [this, h']
  · rw [Nat.div_eq_of_lt (by omega)]; simp [h']
theorem wHigh (f m : Nat) (h : m < 2 ^ fB f) : m / 2 ^ (fP f - 1) < 2 ^ (fK f + 1) := by
  have hp := fP_in f
  rw [Nat.div_lt_iff_lt_mul (Nat.pow_pos (by omega)), ← Nat.pow_add, show fK f + 1 + (fP f - 1) = fB f by rw [fBPK]; omega]
  exact h

theorem build_parts (f : Nat) (b : Bool) (x : Int) (n : Nat) (w : World) : (Instr.build 163 (List.toArray [(0, .agg (fmC f)), (1, .bool b), (2, .int .i64 x), (3, W n)])).run Tryz.prog w = .ok (.agg (fmC f ++ (#[.bool b, .int .i64 x] ++ wc 8 n))) w := by kernel_rfl

set_option maxHeartbeats 4000000 in
theorem ask_int (f : Nat) (h1 : 1 ≤ f) (h4 : f ≤ 4) (m : Nat) (hm : m < 2 ^ fB f) (g : FuncId) (hg : GoF Tryz.prog g) (x : Int) (w0 : World) (hF : FmtIn w0)
    (hgv : ∀ w, Keeps [] w0 w → GivesAt Tryz.prog g #[.agg (ptC f m)] (.int .i64 x) w) : GivesAt Tryz.prog 122 #[.int .i64 f, Wd m, .func (.func g) #[] #[]] (.int .i64 x) w0 := by
  have hst := St.start [] w0
  have hk := Lib.hid (fun w (k : Keeps [] w0 w) => hF.keep k (by simp))
  have hm2 : m < M2 := Nat.lt_of_lt_of_le hm (by
    have := (fB_in f).2
    exact Nat.pow_le_pow_right (by omega) this)
  have hfit := fun w h => format_Fits f h1 h4 m hm2 w h
  rw [decide_eq_true hm] at hfit
  have hof := fun w h => format_Of f h1 h4 w h
  have hfr := wide_From m hm2
  have hmM : m < M := Nat.lt_of_lt_of_le hm2 (by rw [M_eq]; exact Nat.pow_le_pow_right B_pos (by omega))
  have hp := fP_in f
  have hb := fB_in f
  have hK := fK_in f
  have hhi := wHigh f m hm
  have hshr := wide_Shr m (fP f - 1 : Nat) hmM
  rw [clampN_nat _ (by omega)] at hshr
  have hle : m / 2 ^ (fP f - 1) * 2 ^ (fP f - 1) ≤ m := Nat.div_mul_le_self _ _
  have hshl := wide_Shl (m / 2 ^ (fP f - 1)) (fP f - 1 : Nat) (Nat.lt_of_le_of_lt (Nat.div_le_self _ _) hmM)
  rw [clampN_nat _ (by omega), Nat.mod_eq_of_lt (Nat.lt_of_le_of_lt hle hmM)] at hshl
  have hsub := wide_Sub m (m / 2 ^ (fP f - 1) * 2 ^ (fP f - 1)) hmM (Nat.lt_of_le_of_lt hle hmM)
  have hfrac : (m + M - m / 2 ^ (fP f - 1) * 2 ^ (fP f - 1)) % M = wFrac f m := by
    unfold wFrac
    have hd := Nat.div_add_mod m (2 ^ (fP f - 1))
    rw [Nat.mul_comm] at hd
    rw [show m + M - m / 2 ^ (fP f - 1) * 2 ^ (fP f - 1) = m % 2 ^ (fP f - 1) + M by omega, Nat.add_mod_right, Nat.mod_eq_of_lt (by omega)]
  rw [hfrac] at hsub
  have hbit := wide_Bit m (fB f - 1) hmM (by omega)
  rw [wNeg_bit f m hm] at hbit
  have hfield : bits .and .i64 ((m / 2 ^ (fP f - 1) : Nat) : Int) ((2 ^ fK f - 1 : Nat) : Int) = (wField f m : Int) := by
    have a1 : 2 ^ (fK f + 1) ≤ 2 ^ 16 := Nat.pow_le_pow_right (by omega) (by omega)
    have a2 : 2 ^ fK f ≤ 2 ^ 16 := Nat.pow_le_pow_right (by omega) (by omega)
    rw [bits_and_i64 _ _ (by omega) (by omega), Nat.and_two_pow_sub_one_eq_mod]
    rfl
  have hhB : m / 2 ^ (fP f - 1) < 65536 + 1 := by
    have a1 : 2 ^ (fK f + 1) ≤ 2 ^ 16 := Nat.pow_le_pow_right (by omega) (by omega)
    omega
  have hlb : lb (m / 2 ^ (fP f - 1)) 0 = m / 2 ^ (fP f - 1) := by rw [lb_zero, Nat.mod_eq_of_lt (by rw [B_val]; omega)]
  have hpow : (2 : Int) ^ fK f - 1 = ((2 ^ fK f - 1 : Nat) : Int) := by
    have : 0 < 2 ^ fK f := Nat.pow_pos (by omega)
    rw [Int.natCast_sub (by omega)]; simp
  have hpw : 2 ^ fK f ≤ 65536 := by
    have a2 : 2 ^ fK f ≤ 2 ^ 16 := Nat.pow_le_pow_right (by omega) (by omega)
    omega
  have A1 : IntKind.i64.wrap ((m / 2 ^ (fP f - 1) : Nat) : Int) = ((m / 2 ^ (fP f - 1) : Nat) : Int) := by rw [IntKind.wrap_i64]; omega
  have A2 : IntKind.i64.wrap ((2 : Int) ^ fK f) = (2 : Int) ^ fK f := by rw [show (2 : Int) ^ fK f = ((2 ^ fK f - 1 : Nat) : Int) + 1 by omega, IntKind.wrap_i64]; omega
  have A3 : IntKind.i64.wrap ((2 : Int) ^ fK f - 1) = ((2 ^ fK f - 1 : Nat) : Int) := by rw [hpow, IntKind.wrap_i64]; omega
  clear hpow
  have c1 : ((fP f - 1 : Nat) : Int) = (fP f : Int) - 1 := by omega
  have c2 : ((fB f - 1 : Nat) : Int) = (fB f : Int) - 1 := by omega
  rw [c1] at hshr hshl
  rw [c2] at hbit
  have z1 := fmC_size f
  have z2 := fmC_one f
  have g0 : (fmC f)[0]? = some (.int .i64 (fB f : Nat)) := rfl
  have g1 : (fmC f)[0 + 1]? = some (.int .i64 (fP f : Nat)) := rfl
  have g4 : (fmC f)[0 + 4]? = some (.int .i64 (fK f : Nat)) := rfl
  have y1 := ptC_size f m
  have y2 := ptC_one f m
  have hpt : ptC f m = fmC f ++ (#[.bool (wNeg f m), .int .i64 (wField f m : Nat)] ++ wc 8 (wFrac f m)) := rfl
  have hgv' := Lib.hid hgv
  have hw1 : IntKind.i64.wrap ((fP f : Int) - 1) = (fP f : Int) - 1 := by rw [IntKind.wrap_i64]; omega
  have hw2 : IntKind.i64.wrap ((fB f : Int) - 1) = (fB f : Int) - 1 := by rw [IntKind.wrap_i64]; omega
  have hbp := fun w => build_parts f (wNeg f m) (wField f m : Nat) (wFrac f m) w
  rw [← hpt] at hbp
  clear hF hm hm2 hmM hhi hle hfrac hgv c1 c2 hpt
  generalize ptC f m = ps at *
  generalize m / 2 ^ (fP f - 1) * 2 ^ (fP f - 1) = hx at *
  generalize m / 2 ^ (fP f - 1) = hi' at *
  generalize wFrac f m = fr at *
  generalize wField f m = fld at *
  generalize wNeg f m = ng at *
  generalize fmC f = cs at *
  go_enter Tryz.func122, Tryz.ntmps122
  go_wp2_with ((first | (refine kg gf30 hst (fun w hst => hfit w (hk.out w hst.keeps)) rfl rfl rfl rfl ?_; clear hst; intro w hst) | (refine kg gf40 hst (fun w hst => hof w (hk.out w hst.keeps)) rfl rfl rfl rfl ?_; clear hst; intro w hst) | (refine kf gf42 hst (hfr) rfl rfl rfl rfl ?_; clear hst; intro w hst) | (refine kf gf108 hst (hshr) rfl rfl rfl rfl ?_; clear hst; intro w hst) | (refine kb 4 hst rfl rfl ?_; clear hst; intro b4 w hb4 hst) | (refine kl hst ta24 rfl ?_) | (refine ka 8 hst tz104 rfl rfl ?_; clear hst; intro b8 w hb8 hst) | (refine kt hst ta104 rfl rfl ?_; clear hst; intro w hst) | (refine ka 10 hst tz109 rfl rfl ?_; clear hst; intro b10 w hb10 hst) | (refine kt hst ta109 rfl rfl ?_; clear hst; intro w hst) | (refine kl hst ta109 rfl ?_) | (refine kc hst tc3 rfl ?_) | (refine ka 11 hst tz109 rfl rfl ?_; clear hst; intro b11 w hb11 hst)); try simp only [pz, pn, sz, sc])
  refine wp_region_T 11  hst (by kernel_rfl) ?_; clear hst; intro w hst; (try simp only [List.length_cons, List.length_nil, Nat.reduceAdd, Array.replicate_succ, Array.replicate_zero, List.push_toArray, List.nil_append, List.cons_append])
  refine r0 2 ?_; simp only [pz, pn, sz, sc, hw1]
  refine rl 0 rfl ?_ (by first | exact ylA ta109 | exact ylM ta109); simp only [pz, pn, sz, sc, hw1]
  refine rl 1 rfl ?_ (by first | exact ylA ta109 | exact ylM ta109); simp only [pz, pn, sz, sc, hw1]
  refine rl 3 rfl ?_ (ylC tc3); simp only [pz, pn, sz, sc, hw1]
  refine r0 4 ?_; simp only [pz, pn, sz, sc, hw1]
  refine r2 5 10 ?_ ?_
  (refine kf gf99 hst (hshl) rfl rfl rfl rfl ?_; clear hst; intro w hst); (try simp only [pz, pn, sz, sc, hw1]); refine re ?_
  refine r2 6 10 ?_ ?_
  (refine kf gf120 hst (hsub) rfl rfl rfl rfl ?_; clear hst; intro w hst); (try simp only [pz, pn, sz, sc, hw1]); refine re ?_
  refine r0 7 ?_; simp only [pz, pn, sz, sc, hw1]
  refine r0 8 ?_; simp only [pz, pn, sz, sc, hw1]
  refine r0 9 ?_; simp only [pz, pn, sz, sc, hw1]
  refine r1 10 ?_; (refine ka 13 hst tz109 rfl rfl ?_; clear hst; intro b13 w hb13 hst); (try simp only [pz, pn, sz, sc, hw1]); refine re ?_
  refine r1 11 ?_; (refine kt hst ta109 rfl rfl ?_; clear hst; intro w hst); (try simp only [pz, pn, sz, sc, hw1]); refine re ?_
  refine r0 12 ?_; simp only [pz, pn, sz, sc, hw1]
  refine rd_ ?_
  rotate_left 1
  (refine ka 13 hst tz109 rfl rfl ?_; clear hst; intro b13 w hb13 hst); (try simp only [pz, pn, sz, sc, hw1]); refine re ?_
  refine r1 6 ?_; (refine kf gf120 hst (hsub) rfl rfl rfl rfl ?_; clear hst; intro w hst); (try simp only [pz, pn, sz, sc, hw1]); refine re ?_
  refine r0 7 ?_; simp only [pz, pn, sz, sc, hw1]
  refine r0 8 ?_; simp only [pz, pn, sz, sc, hw1]
  refine r0 9 ?_; simp only [pz, pn, sz, sc, hw1]
  refine r1 11 ?_; (refine kt hst ta109 rfl rfl ?_; clear hst; intro w hst); (try simp only [pz, pn, sz, sc, hw1]); refine re ?_
  refine r0 12 ?_; simp only [pz, pn, sz, sc, hw1]
  refine rd_ ?_
  rotate_right 1
  rotate_left 2
  (refine ka 13 hst tz109 rfl rfl ?_; clear hst; intro b13 w hb13 hst); (try simp only [pz, pn, sz, sc, hw1]); refine re ?_
  refine r1 5 ?_; (refine kf gf99 hst (hshl) rfl rfl rfl rfl ?_; clear hst; intro w hst); (try simp only [pz, pn, sz, sc, hw1]); refine re ?_
  refine r1 6 ?_; (refine kf gf120 hst (hsub) rfl rfl rfl rfl ?_; clear hst; intro w hst); (try simp only [pz, pn, sz, sc, hw1]); refine re ?_
  refine r0 7 ?_; simp only [pz, pn, sz, sc, hw1]
  refine r0 8 ?_; simp only [pz, pn, sz, sc, hw1]
  refine r0 9 ?_; simp only [pz, pn, sz, sc, hw1]
  refine r1 11 ?_; (refine kt hst ta109 rfl rfl ?_; clear hst; intro w hst); (try simp only [pz, pn, sz, sc, hw1]); refine re ?_
  refine r0 12 ?_; simp only [pz, pn, sz, sc, hw1]
  refine rd_ ?_
  rotate_right 2
  all_goals
    go_wp2_with fail
    refine wp_region_T 9  hst (by kernel_rfl) ?_; clear hst; intro w hst; (try simp only [List.length_cons, List.length_nil, Nat.reduceAdd, Array.replicate_succ, Array.replicate_zero, List.push_toArray, List.nil_append, List.cons_append])
    refine r0 0 ?_; simp only [pz, pn, sz, sc, A1, A2, A3, hfield]
    refine r0 3 ?_; simp only [pz, pn, sz, sc, A1, A2, A3, hfield]
    refine rl 1 rfl ?_ (ylC tc22); simp only [pz, pn, sz, sc, A1, A2, A3, hfield]
    refine r0 2 ?_; simp only [pz, pn, sz, sc, A1, A2, A3, hfield]
    refine rl 4 rfl ?_ (ylC tc3); simp only [pz, pn, sz, sc, A1, A2, A3, hfield]
    refine r0 5 ?_; simp only [pz, pn, sz, sc, A1, A2, A3, hfield]
    refine r0 6 ?_; simp only [pz, pn, sz, sc, A1, A2, A3, hfield]
    refine r0 7 ?_; simp only [pz, pn, sz, sc, A1, A2, A3, hfield]
    refine r0 8 ?_; simp only [pz, pn, sz, sc, A1, A2, A3, hfield]
    refine rd_ ?_
    go_wp2_with fail
    refine wp_region_T 12  hst (by kernel_rfl) ?_; clear hst; intro w hst; (try simp only [List.length_cons, List.length_nil, Nat.reduceAdd, Array.replicate_succ, Array.replicate_zero, List.push_toArray, List.nil_append, List.cons_append])
    refine r0 0 ?_; simp only [pz, pn, sz, sc, hw2]
    refine r0 3 ?_; simp only [pz, pn, sz, sc, hw2]
    refine r0 7 ?_; simp only [pz, pn, sz, sc, hw2]
    refine rl 1 rfl ?_ (by first | exact ylA ta104 | exact ylM ta104); simp only [pz, pn, sz, sc, hw2]
    refine rl 2 rfl ?_ (by first | exact ylA ta109 | exact ylM ta109); simp only [pz, pn, sz, sc, hw2]
    refine rl 4 rfl ?_ (ylC tc3); simp only [pz, pn, sz, sc, hw2]
    refine r0 5 ?_; simp only [pz, pn, sz, sc, hw2]
    refine rl 8 rfl ?_ (by first | exact ylA ta109 | exact ylM ta109); simp only [pz, pn, sz, sc, hw2]
    refine r1 6 ?_; (refine kf gf121 hst (hbit) rfl rfl rfl rfl ?_; clear hst; intro w hst); (try simp only [pz, pn, sz, sc, hw2]); refine re ?_
    refine r0 9 ?_ (hy := yB (hbp)); simp only [pz, pn, sz, sc, hw2]
    refine r1 10 ?_; (refine kg hg hst (fun w hst => hgv'.out w hst.keeps) rfl rfl rfl rfl ?_; clear hst; intro w hst); (try simp only [pz, pn, sz, sc, hw2]); refine re ?_
    refine r0 11 ?_; simp only [pz, pn, sz, sc, hw2]
    refine rd_ ?_
    go_wp2_with fail
    refine bp_t rfl rfl (by rfl) ⟨?_, hst.keeps⟩
    rfl

end Go.Proofs.YtoakmlopjeecoaaGreatDoor.Rd

namespace Go.Proofs.YtoakmlopjeecoaaGreatDoor.Rd
open Go Go.RowKit
set_option linter.unusedVariables false
set_option linter.unusedSimpArgs false
set_option maxRecDepth 100000

set_option maxHeartbeats 4000000 in
theorem ask_bool (f : Nat) (h1 : 1 ≤ f) (h4 : f ≤ 4) (m : Nat) (hm : m < 2 ^ fB f) (g : FuncId) (hg : GoF Tryz.prog g) (x : Bool) (w0 : World) (hF : FmtIn w0)
    (hgv : ∀ w, Keeps [] w0 w → GivesAt Tryz.prog g #[.agg (ptC f m)] (.bool x) w) : GivesAt Tryz.prog 79 #[.int .i64 f, Wd m, .func (.func g) #[] #[]] (.bool x) w0 := by
  have hst := St.start [] w0
  have hk := Lib.hid (fun w (k : Keeps [] w0 w) => hF.keep k (by simp))
  have hm2 : m < M2 := Nat.lt_of_lt_of_le hm (by
    have := (fB_in f).2
    exact Nat.pow_le_pow_right (by omega) this)
  have hfit := fun w h => format_Fits f h1 h4 m hm2 w h
  rw [decide_eq_true hm] at hfit
  have hof := fun w h => format_Of f h1 h4 w h
  have hfr := wide_From m hm2
  have hmM : m < M := Nat.lt_of_lt_of_le hm2 (by rw [M_eq]; exact Nat.pow_le_pow_right B_pos (by omega))
  have hp := fP_in f
  have hb := fB_in f
  have hK := fK_in f
  have hhi := wHigh f m hm
  have hshr := wide_Shr m (fP f - 1 : Nat) hmM
  rw [clampN_nat _ (by omega)] at hshr
  have hle : m / 2 ^ (fP f - 1) * 2 ^ (fP f - 1) ≤ m := Nat.div_mul_le_self _ _
  have hshl := wide_Shl (m / 2 ^ (fP f - 1)) (fP f - 1 : Nat) (Nat.lt_of_le_of_lt (Nat.div_le_self _ _) hmM)
  rw [clampN_nat _ (by omega), Nat.mod_eq_of_lt (Nat.lt_of_le_of_lt hle hmM)] at hshl
  have hsub := wide_Sub m (m / 2 ^ (fP f - 1) * 2 ^ (fP f - 1)) hmM (Nat.lt_of_le_of_lt hle hmM)
  have hfrac : (m + M - m / 2 ^ (fP f - 1) * 2 ^ (fP f - 1)) % M = wFrac f m := by
    unfold wFrac
    have hd := Nat.div_add_mod m (2 ^ (fP f - 1))
    rw [Nat.mul_comm] at hd
    rw [show m + M - m / 2 ^ (fP f - 1) * 2 ^ (fP f - 1) = m % 2 ^ (fP f - 1) + M by omega, Nat.add_mod_right, Nat.mod_eq_of_lt (by omega)]
  rw [hfrac] at hsub
  have hbit := wide_Bit m (fB f - 1) hmM (by omega)
  rw [wNeg_bit f m hm] at hbit
  have hfield : bits .and .i64 ((m / 2 ^ (fP f - 1) : Nat) : Int) ((2 ^ fK f - 1 : Nat) : Int) = (wField f m : Int) := by
    have a1 : 2 ^ (fK f + 1) ≤ 2 ^ 16 := Nat.pow_le_pow_right (by omega) (by omega)
    have a2 : 2 ^ fK f ≤ 2 ^ 16 := Nat.pow_le_pow_right (by omega) (by omega)
    rw [bits_and_i64 _ _ (by omega) (by omega), Nat.and_two_pow_sub_one_eq_mod]
    rfl
  have hhB : m / 2 ^ (fP f - 1) < 65536 + 1 := by
    have a1 : 2 ^ (fK f + 1) ≤ 2 ^ 16 := Nat.pow_le_pow_right (by omega) (by omega)
    omega
  have hlb : lb (m / 2 ^ (fP f - 1)) 0 = m / 2 ^ (fP f - 1) := by rw [lb_zero, Nat.mod_eq_of_lt (by rw [B_val]; omega)]
  have hpow : (2 : Int) ^ fK f - 1 = ((2 ^ fK f - 1 : Nat) : Int) := by
    have : 0 < 2 ^ fK f := Nat.pow_pos (by omega)
    rw [Int.natCast_sub (by omega)]; simp
  have hpw : 2 ^ fK f ≤ 65536 := by
    have a2 : 2 ^ fK f ≤ 2 ^ 16 := Nat.pow_le_pow_right (by omega) (by omega)
    omega
  have A1 : IntKind.i64.wrap ((m / 2 ^ (fP f - 1) : Nat) : Int) = ((m / 2 ^ (fP f - 1) : Nat) : Int) := by rw [IntKind.wrap_i64]; omega
  have A2 : IntKind.i64.wrap ((2 : Int) ^ fK f) = (2 : Int) ^ fK f := by rw [show (2 : Int) ^ fK f = ((2 ^ fK f - 1 : Nat) : Int) + 1 by omega, IntKind.wrap_i64]; omega
  have A3 : IntKind.i64.wrap ((2 : Int) ^ fK f - 1) = ((2 ^ fK f - 1 : Nat) : Int) := by rw [hpow, IntKind.wrap_i64]; omega
  clear hpow
  have c1 : ((fP f - 1 : Nat) : Int) = (fP f : Int) - 1 := by omega
  have c2 : ((fB f - 1 : Nat) : Int) = (fB f : Int) - 1 := by omega
  rw [c1] at hshr hshl
  rw [c2] at hbit
  have z1 := fmC_size f
  have z2 := fmC_one f
  have g0 : (fmC f)[0]? = some (.int .i64 (fB f : Nat)) := rfl
  have g1 : (fmC f)[0 + 1]? = some (.int .i64 (fP f : Nat)) := rfl
  have g4 : (fmC f)[0 + 4]? = some (.int .i64 (fK f : Nat)) := rfl
  have y1 := ptC_size f m
  have y2 := ptC_one f m
  have hpt : ptC f m = fmC f ++ (#[.bool (wNeg f m), .int .i64 (wField f m : Nat)] ++ wc 8 (wFrac f m)) := rfl
  have hgv' := Lib.hid hgv
  have hw1 : IntKind.i64.wrap ((fP f : Int) - 1) = (fP f : Int) - 1 := by rw [IntKind.wrap_i64]; omega
  have hw2 : IntKind.i64.wrap ((fB f : Int) - 1) = (fB f : Int) - 1 := by rw [IntKind.wrap_i64]; omega
  have hbp := fun w => build_parts f (wNeg f m) (wField f m : Nat) (wFrac f m) w
  rw [← hpt] at hbp
  clear hF hm hm2 hmM hhi hle hfrac hgv c1 c2 hpt
  generalize ptC f m = ps at *
  generalize m / 2 ^ (fP f - 1) * 2 ^ (fP f - 1) = hx at *
  generalize m / 2 ^ (fP f - 1) = hi' at *
  generalize wFrac f m = fr at *
  generalize wField f m = fld at *
  generalize wNeg f m = ng at *
  generalize fmC f = cs at *
  go_enter Tryz.func79, Tryz.ntmps79
  go_wp2_with ((first | (refine kg gf30 hst (fun w hst => hfit w (hk.out w hst.keeps)) rfl rfl rfl rfl ?_; clear hst; intro w hst) | (refine kg gf40 hst (fun w hst => hof w (hk.out w hst.keeps)) rfl rfl rfl rfl ?_; clear hst; intro w hst) | (refine kf gf42 hst (hfr) rfl rfl rfl rfl ?_; clear hst; intro w hst) | (refine kf gf108 hst (hshr) rfl rfl rfl rfl ?_; clear hst; intro w hst) | (refine kb 4 hst rfl rfl ?_; clear hst; intro b4 w hb4 hst) | (refine kl hst ta24 rfl ?_) | (refine ka 8 hst tz104 rfl rfl ?_; clear hst; intro b8 w hb8 hst) | (refine kt hst ta104 rfl rfl ?_; clear hst; intro w hst) | (refine ka 10 hst tz109 rfl rfl ?_; clear hst; intro b10 w hb10 hst) | (refine kt hst ta109 rfl rfl ?_; clear hst; intro w hst) | (refine kl hst ta109 rfl ?_) | (refine kc hst tc3 rfl ?_) | (refine ka 11 hst tz109 rfl rfl ?_; clear hst; intro b11 w hb11 hst)); try simp only [pz, pn, sz, sc])
  refine wp_region_T 11  hst (by kernel_rfl) ?_; clear hst; intro w hst; (try simp only [List.length_cons, List.length_nil, Nat.reduceAdd, Array.replicate_succ, Array.replicate_zero, List.push_toArray, List.nil_append, List.cons_append])
  refine r0 2 ?_; simp only [pz, pn, sz, sc, hw1]
  refine rl 0 rfl ?_ (by first | exact ylA ta109 | exact ylM ta109); simp only [pz, pn, sz, sc, hw1]
  refine rl 1 rfl ?_ (by first | exact ylA ta109 | exact ylM ta109); simp only [pz, pn, sz, sc, hw1]
  refine rl 3 rfl ?_ (ylC tc3); simp only [pz, pn, sz, sc, hw1]
  refine r0 4 ?_; simp only [pz, pn, sz, sc, hw1]
  refine r2 5 10 ?_ ?_
  (refine kf gf99 hst (hshl) rfl rfl rfl rfl ?_; clear hst; intro w hst); (try simp only [pz, pn, sz, sc, hw1]); refine re ?_
  refine r2 6 10 ?_ ?_
  (refine kf gf120 hst (hsub) rfl rfl rfl rfl ?_; clear hst; intro w hst); (try simp only [pz, pn, sz, sc, hw1]); refine re ?_
  refine r0 7 ?_; simp only [pz, pn, sz, sc, hw1]
  refine r0 8 ?_; simp only [pz, pn, sz, sc, hw1]
  refine r0 9 ?_; simp only [pz, pn, sz, sc, hw1]
  refine r1 10 ?_; (refine ka 13 hst tz109 rfl rfl ?_; clear hst; intro b13 w hb13 hst); (try simp only [pz, pn, sz, sc, hw1]); refine re ?_
  refine r1 11 ?_; (refine kt hst ta109 rfl rfl ?_; clear hst; intro w hst); (try simp only [pz, pn, sz, sc, hw1]); refine re ?_
  refine r0 12 ?_; simp only [pz, pn, sz, sc, hw1]
  refine rd_ ?_
  rotate_left 1
  (refine ka 13 hst tz109 rfl rfl ?_; clear hst; intro b13 w hb13 hst); (try simp only [pz, pn, sz, sc, hw1]); refine re ?_
  refine r1 6 ?_; (refine kf gf120 hst (hsub) rfl rfl rfl rfl ?_; clear hst; intro w hst); (try simp only [pz, pn, sz, sc, hw1]); refine re ?_
  refine r0 7 ?_; simp only [pz, pn, sz, sc, hw1]
  refine r0 8 ?_; simp only [pz, pn, sz, sc, hw1]
  refine r0 9 ?_; simp only [pz, pn, sz, sc, hw1]
  refine r1 11 ?_; (refine kt hst ta109 rfl rfl ?_; clear hst; intro w hst); (try simp only [pz, pn, sz, sc, hw1]); refine re ?_
  refine r0 12 ?_; simp only [pz, pn, sz, sc, hw1]
  refine rd_ ?_
  rotate_right 1
  rotate_left 2
  (refine ka 13 hst tz109 rfl rfl ?_; clear hst; intro b13 w hb13 hst); (try simp only [pz, pn, sz, sc, hw1]); refine re ?_
  refine r1 5 ?_; (refine kf gf99 hst (hshl) rfl rfl rfl rfl ?_; clear hst; intro w hst); (try simp only [pz, pn, sz, sc, hw1]); refine re ?_
  refine r1 6 ?_; (refine kf gf120 hst (hsub) rfl rfl rfl rfl ?_; clear hst; intro w hst); (try simp only [pz, pn, sz, sc, hw1]); refine re ?_
  refine r0 7 ?_; simp only [pz, pn, sz, sc, hw1]
  refine r0 8 ?_; simp only [pz, pn, sz, sc, hw1]
  refine r0 9 ?_; simp only [pz, pn, sz, sc, hw1]
  refine r1 11 ?_; (refine kt hst ta109 rfl rfl ?_; clear hst; intro w hst); (try simp only [pz, pn, sz, sc, hw1]); refine re ?_
  refine r0 12 ?_; simp only [pz, pn, sz, sc, hw1]
  refine rd_ ?_
  rotate_right 2
  all_goals
    go_wp2_with fail
    refine wp_region_T 9  hst (by kernel_rfl) ?_; clear hst; intro w hst; (try simp only [List.length_cons, List.length_nil, Nat.reduceAdd, Array.replicate_succ, Array.replicate_zero, List.push_toArray, List.nil_append, List.cons_append])
    refine r0 0 ?_; simp only [pz, pn, sz, sc, A1, A2, A3, hfield]
    refine r0 3 ?_; simp only [pz, pn, sz, sc, A1, A2, A3, hfield]
    refine rl 1 rfl ?_ (ylC tc22); simp only [pz, pn, sz, sc, A1, A2, A3, hfield]
    refine r0 2 ?_; simp only [pz, pn, sz, sc, A1, A2, A3, hfield]
    refine rl 4 rfl ?_ (ylC tc3); simp only [pz, pn, sz, sc, A1, A2, A3, hfield]
    refine r0 5 ?_; simp only [pz, pn, sz, sc, A1, A2, A3, hfield]
    refine r0 6 ?_; simp only [pz, pn, sz, sc, A1, A2, A3, hfield]
    refine r0 7 ?_; simp only [pz, pn, sz, sc, A1, A2, A3, hfield]
    refine r0 8 ?_; simp only [pz, pn, sz, sc, A1, A2, A3, hfield]
    refine rd_ ?_
    go_wp2_with fail
    refine wp_region_T 12  hst (by kernel_rfl) ?_; clear hst; intro w hst; (try simp only [List.length_cons, List.length_nil, Nat.reduceAdd, Array.replicate_succ, Array.replicate_zero, List.push_toArray, List.nil_append, List.cons_append])
    refine r0 0 ?_; simp only [pz, pn, sz, sc, hw2]
    refine r0 3 ?_; simp only [pz, pn, sz, sc, hw2]
    refine r0 7 ?_; simp only [pz, pn, sz, sc, hw2]
    refine rl 1 rfl ?_ (by first | exact ylA ta104 | exact ylM ta104); simp only [pz, pn, sz, sc, hw2]
    refine rl 2 rfl ?_ (by first | exact ylA ta109 | exact ylM ta109); simp only [pz, pn, sz, sc, hw2]
    refine rl 4 rfl ?_ (ylC tc3); simp only [pz, pn, sz, sc, hw2]
    refine r0 5 ?_; simp only [pz, pn, sz, sc, hw2]
    refine rl 8 rfl ?_ (by first | exact ylA ta109 | exact ylM ta109); simp only [pz, pn, sz, sc, hw2]
    refine r1 6 ?_; (refine kf gf121 hst (hbit) rfl rfl rfl rfl ?_; clear hst; intro w hst); (try simp only [pz, pn, sz, sc, hw2]); refine re ?_
    refine r0 9 ?_ (hy := yB (hbp)); simp only [pz, pn, sz, sc, hw2]
    refine r1 10 ?_; (refine kg hg hst (fun w hst => hgv'.out w hst.keeps) rfl rfl rfl rfl ?_; clear hst; intro w hst); (try simp only [pz, pn, sz, sc, hw2]); refine re ?_
    refine r0 11 ?_; simp only [pz, pn, sz, sc, hw2]
    refine rd_ ?_
    go_wp2_with fail
    refine bp_t rfl rfl (by rfl) ⟨?_, hst.keeps⟩
    rfl

end Go.Proofs.YtoakmlopjeecoaaGreatDoor.Rd

namespace Go.Proofs.YtoakmlopjeecoaaGreatDoor.Rd
open Go Go.RowKit
set_option linter.unusedVariables false
set_option linter.unusedSimpArgs false
set_option maxRecDepth 100000

theorem small_M2 (k : Nat) (h : k ≤ 500) : 2 ^ k < M := by
  have key : ∀ t, M = 2 ^ t → k < t → 2 ^ k < M := fun t e h => by rw [e]; exact Nat.pow_lt_pow_right (by omega) h
  exact key (64 * 8) (by rw [M_eq, show B = 2 ^ 64 from rfl, ← Nat.pow_mul]) (by omega)

/-- A word's class. -/
def clsN (f m : Nat) : Nat := if wField f m = 2 * fE f + 1 then (if wFrac f m = 0 then 3 else if (wFrac f m).testBit (fP f - 2) then 2 else 1) else if wField f m = 0 then (if wFrac f m = 0 then 6 else 5) else 4
theorem ptC_eq (f m : Nat) : ptC f m = (fmC f ++ #[.bool (wNeg f m), .int .i64 (wField f m : Nat)]) ++ wc 8 (wFrac f m) := by unfold ptC; rw [Array.append_assoc]
theorem ptC_at (f m : Nat) : (ptC f m)[0 + 1]? = some (.int .i64 (fP f : Nat)) ∧ (ptC f m)[0 + 2]? = some (.int .i64 (fE f : Nat)) ∧ (ptC f m)[0 + 5]? = some (.bool (wNeg f m)) ∧ (ptC f m)[0 + 6]? = some (.int .i64 (wField f m : Nat)) := by
  rw [ptC_eq]
  exact ⟨pre_get (cells_get rfl), pre_get (cells_get rfl), pre_get (cells_get rfl), pre_get (cells_get rfl)⟩
theorem ptC_frac (f m : Nat) : Part (ptC f m) (wc 8 (wFrac f m)) (ptC f m) (wc 8 (wFrac f m)) 7 := by
  rw [ptC_eq]
  exact part1 7 _ _ _ (by simp [fmC]) rfl

theorem class_Neg_1 (f m : Nat) : Gives Tryz.prog 80 #[.agg (ptC f m)] (.bool (wNeg f m)) := by
  intro w0
  have hst := St.start [] w0
  obtain ⟨_, _, g5, _⟩ := ptC_at f m
  have y1 := ptC_size f m
  have y2 := ptC_one f m
  generalize ptC f m = ps at *
  generalize wNeg f m = ng at *
  go_enter Tryz.func80, Tryz.ntmps80
  go_wp2_with ((first | (refine kb 1 hst rfl rfl ?_; clear hst; intro b1 w hb1 hst) | (refine kc hst tc4 rfl ?_)); try simp only [pz, pn, sz, sc])
  refine bp_t rfl rfl (by rfl) ⟨?_, hst.keeps⟩
  rfl

set_option maxHeartbeats 2000000 in
theorem class_kind (f m : Nat) : Gives Tryz.prog 123 #[.agg (ptC f m)] (.int .i64 (clsN f m : Nat)) := by
  intro w0
  have hst := St.start [] w0
  obtain ⟨g1, g2, _, g6⟩ := ptC_at f m
  have hp := ptC_frac f m
  have y1 := ptC_size f m
  have y2 := ptC_one f m
  have hP := fP_in f
  have hE := fE_in f
  have hfr : wFrac f m < M := Nat.lt_trans (wFrac_lt f m) (small_M2 (fP f - 1) (by omega))
  have hbit := wide_Bit (wFrac f m) (fP f - 2) hfr (by omega)
  rw [show ((fP f - 2 : Nat) : Int) = (fP f : Int) - 2 by omega] at hbit
  have hM := M_pos
  unfold clsN
  have hfld : wField f m < 65536 := Nat.lt_of_lt_of_le (Nat.mod_lt _ (Nat.pow_pos (by omega))) (Nat.le_trans (Nat.pow_le_pow_right (by omega) (fK_in f).2) (by decide))
  generalize ptC f m = ps at *
  generalize wFrac f m = fr at *
  generalize wField f m = fld at *
  generalize fP f = p at *
  generalize fE f = E at *
  by_cases hA : fld = 2 * E + 1
  · rw [if_pos hA]
    have qA : (fld : Int) = 2 * (E : Int) + 1 := by omega
    have QA : ((fld : Int) == 2 * (E : Int) + 1) = true := by simpa using qA
    clear hA
    by_cases h0 : fr = 0
    · rw [if_pos h0]
      have Q0 : decide (fr = 0) = true := by simpa using h0
      clear h0 qA
      go_enter Tryz.func123, Tryz.ntmps123
      go_wp2_with ((first | (refine klm hst ta109 rfl ?_ (hc := hp)) | (refine kb 1 hst rfl rfl ?_; clear hst; intro b1 w hb1 hst) | (refine ke tr109 tc22 rfl ?_) | (refine kc hst tc3 rfl ?_)); try simp only [pz, pn, sz, sc])
      refine bp_t rfl rfl (by rfl) ⟨?_, hst.keeps⟩
      rfl
    · rw [if_neg h0]
      have Q0 : decide (fr = 0) = false := by simpa using h0
      clear h0 qA
      cases hb : fr.testBit (p - 2)
      · rw [hb] at hbit
        clear hb
        go_enter Tryz.func123, Tryz.ntmps123
        go_wp2_with ((first | (refine klm hst ta109 rfl ?_ (hc := hp)) | (refine kf gf121 hst (hbit) rfl rfl rfl rfl ?_; clear hst; intro w hst) | (refine kb 1 hst rfl rfl ?_; clear hst; intro b1 w hb1 hst) | (refine ke tr109 tc22 rfl ?_) | (refine kc hst tc3 rfl ?_)); try simp only [pz, pn, sz, sc])
        refine bp_t rfl rfl (by rfl) ⟨?_, hst.keeps⟩
        rfl
      · rw [hb] at hbit
        clear hb
        go_enter Tryz.func123, Tryz.ntmps123
        go_wp2_with ((first | (refine klm hst ta109 rfl ?_ (hc := hp)) | (refine kf gf121 hst (hbit) rfl rfl rfl rfl ?_; clear hst; intro w hst) | (refine kb 1 hst rfl rfl ?_; clear hst; intro b1 w hb1 hst) | (refine ke tr109 tc22 rfl ?_) | (refine kc hst tc3 rfl ?_)); try simp only [pz, pn, sz, sc])
        refine bp_t rfl rfl (by rfl) ⟨?_, hst.keeps⟩
        rfl
  · rw [if_neg hA]
    have QA : ((fld : Int) == 2 * (E : Int) + 1) = false := by simp; omega
    clear hA
    by_cases hB : fld = 0
    · rw [if_pos hB]
      have QB : ((fld : Int) == 0) = true := by simp; omega
      clear hB
      by_cases h0 : fr = 0
      · rw [if_pos h0]
        have Q0 : decide (fr = 0) = true := by simpa using h0
        clear h0
        go_enter Tryz.func123, Tryz.ntmps123
        go_wp2_with ((first | (refine klm hst ta109 rfl ?_ (hc := hp)) | (refine kb 1 hst rfl rfl ?_; clear hst; intro b1 w hb1 hst) | (refine ke tr109 tc22 rfl ?_) | (refine kc hst tc3 rfl ?_)); try simp only [pz, pn, sz, sc])
        refine bp_t rfl rfl (by rfl) ⟨?_, hst.keeps⟩
        rfl
      · rw [if_neg h0]
        have Q0 : decide (fr = 0) = false := by simpa using h0
        clear h0
        go_enter Tryz.func123, Tryz.ntmps123
        go_wp2_with ((first | (refine klm hst ta109 rfl ?_ (hc := hp)) | (refine kb 1 hst rfl rfl ?_; clear hst; intro b1 w hb1 hst) | (refine ke tr109 tc22 rfl ?_) | (refine kc hst tc3 rfl ?_)); try simp only [pz, pn, sz, sc])
        refine bp_t rfl rfl (by rfl) ⟨?_, hst.keeps⟩
        rfl
    · rw [if_neg hB]
      have QB : ((fld : Int) == 0) = false := by simp; omega
      clear hB
      go_enter Tryz.func123, Tryz.ntmps123
      go_wp2_with ((first | (refine klm hst ta109 rfl ?_ (hc := hp)) | (refine kb 1 hst rfl rfl ?_; clear hst; intro b1 w hb1 hst) | (refine ke tr109 tc22 rfl ?_) | (refine kc hst tc3 rfl ?_)); try simp only [pz, pn, sz, sc])
      refine bp_t rfl rfl (by rfl) ⟨?_, hst.keeps⟩
      rfl

end Go.Proofs.YtoakmlopjeecoaaGreatDoor.Rd

namespace Go.Proofs.YtoakmlopjeecoaaGreatDoor.Rd
open Go Go.RowKit
set_option linter.unusedVariables false
set_option linter.unusedSimpArgs false
set_option maxRecDepth 100000

theorem mode_Is_yes (m : Int) (h1 : 1 ≤ m) (h5 : m ≤ 5) : Gives Tryz.prog 32 #[.int .i64 m] (.bool true) := by
  intro w0
  have hst := St.start [] w0
  have h6 : m < 6 := by omega
  go_enter Tryz.func32, Tryz.ntmps32
  go_wp2_with fail
  refine bp_t rfl rfl (by rfl) ⟨?_, hst.keeps⟩
  rfl

end Go.Proofs.YtoakmlopjeecoaaGreatDoor.Rd

namespace Go.Proofs.YtoakmlopjeecoaaGreatDoor.Rd
open Go Go.RowKit
set_option linter.unusedVariables false
set_option linter.unusedSimpArgs false
set_option maxRecDepth 100000

theorem two_pow_limb (n : Nat) : 2 ^ n = 2 ^ (n % 64) * B ^ (n / 64) := by
  have : B ^ (n / 64) = 2 ^ (64 * (n / 64)) := by unfold B; rw [← Nat.pow_mul]
  rw [this, ← Nat.pow_add]
  congr 1
  omega

/-- What wide.Power answers. -/
def pow2 (n : Int) : Nat := if 0 ≤ n ∧ n < 512 then 2 ^ n.toNat else 0

set_option maxHeartbeats 1000000 in
theorem wide_Power (n : Int) : Gives Tryz.prog 125 #[.int .i64 n] (W (pow2 n)) := by
  intro w0
  have hst := St.start [] w0
  by_cases h0 : 0 ≤ n
  · by_cases h1 : n < 512
    · have hq : 0 ≤ n / 64 ∧ n / 64 < 8 := by omega
      have hr : 0 ≤ n % 64 ∧ n % 64 < 64 := by omega
      obtain ⟨hq1, hq2⟩ := hq
      obtain ⟨hr1, hr2⟩ := hr
      have hset : (wc 8 0).setIfInBounds (n / 64).toNat (.int .u64 (IntKind.u64.wrap (2 ^ (n % 64).toNat))) = wc 8 (pow2 n) := by
        obtain ⟨m, rfl⟩ := Int.eq_ofNat_of_zero_le h0
        have e1 : ((m : Int) / 64).toNat = m / 64 := by omega
        have e2 : ((m : Int) % 64).toNat = m % 64 := by omega
        have e3 : 2 ^ (m % 64) < B := Nat.pow_lt_pow_right (by omega) (by omega)
        have e4 : IntKind.u64.wrap (2 ^ (m % 64)) = ((2 ^ (m % 64) : Nat) : Int) := by
          rw [cast_pow2, u64_wrap, Nat.mod_eq_of_lt e3]
        rw [e1, e2, e4, wc_set 8 0 _ _ (Bp_pos _) e3, Nat.zero_add, ← two_pow_limb]
        have : pow2 (m : Int) = 2 ^ m := by simp [pow2]; omega
        rw [this]
      have hset' := Lib.hid hset
      clear hset
      go_enter Tryz.func125, Tryz.ntmps125
      go_wp2_with ((first | (refine ka 2 hst tz109 rfl rfl ?_; clear hst; intro b2 w hb2 hst) | (refine ka 3 hst tz109 rfl rfl ?_; clear hst; intro b3 w hb3 hst) | (refine ks hst tc22 rfl rfl ?_; clear hst; intro w hst; (try rw [hset'.out] at hst)) | (refine kl hst ta109 rfl ?_) | (refine kt hst ta109 rfl rfl ?_; clear hst; intro w hst; (try rw [hset'.out] at hst))); try simp only [pz, pn, sz, sc])
      refine bp_c rfl rfl (la hst ta109) ⟨?_, hst.keeps⟩
      rfl
    · go_enter Tryz.func125, Tryz.ntmps125
      go_wp2_with ((first | (refine ka 2 hst tz109 rfl rfl ?_; clear hst; intro b2 w hb2 hst) | (refine ka 3 hst tz109 rfl rfl ?_; clear hst; intro b3 w hb3 hst) | (refine kl hst ta109 rfl ?_) | (refine kt hst ta109 rfl rfl ?_; clear hst; intro w hst)); try simp only [pz, pn, sz, sc])
      refine bp_c rfl rfl (la hst ta109) ⟨?_, hst.keeps⟩
      have e : pow2 n = 0 := by unfold pow2; rw [if_neg (by omega)]
      rw [e]; rfl
  · go_enter Tryz.func125, Tryz.ntmps125
    go_wp2_with ((first | (refine ka 2 hst tz109 rfl rfl ?_; clear hst; intro b2 w hb2 hst) | (refine ka 3 hst tz109 rfl rfl ?_; clear hst; intro b3 w hb3 hst) | (refine kl hst ta109 rfl ?_) | (refine kt hst ta109 rfl rfl ?_; clear hst; intro w hst)); try simp only [pz, pn, sz, sc])
    refine bp_c rfl rfl (la hst ta109) ⟨?_, hst.keeps⟩
    have e : pow2 n = 0 := by unfold pow2; rw [if_neg (by omega)]
    rw [e]; rfl

end Go.Proofs.YtoakmlopjeecoaaGreatDoor.Rd

namespace Go.Proofs.YtoakmlopjeecoaaGreatDoor.Rd
open Go Go.RowKit
set_option linter.unusedVariables false
set_option linter.unusedSimpArgs false
set_option maxRecDepth 100000

theorem class_Of (f : Nat) (h1 : 1 ≤ f) (h4 : f ≤ 4) (m : Nat) (hm : m < 2 ^ fB f) (w0 : World) (hF : FmtIn w0) : GivesAt Tryz.prog 89 #[.int .i64 f, Wd m] (.int .i64 (clsN f m : Nat)) w0 := by
  have hst := St.start [] w0
  have hk := Lib.hid (fun w (k : Keeps [] w0 w) => hF.keep k (by simp))
  have ha := fun w h => ask_int f h1 h4 m hm 123 gf123 _ w h (fun w' _ => (class_kind f m).at w')
  clear hF hm
  generalize clsN f m = x at *
  go_enter Tryz.func89, Tryz.ntmps89
  go_wp2_with ((first | (refine kg gf122 hst (fun w hst => ha w (hk.out w hst.keeps)) rfl rfl rfl rfl ?_; clear hst; intro w hst) | (refine kb 3 hst rfl rfl ?_; clear hst; intro b3 w hb3 hst) | (refine kl hst ta24 rfl ?_)); try simp only [pz, pn, sz, sc])
  refine bp_t rfl rfl (by rfl) ⟨?_, hst.keeps⟩
  rfl

theorem class_Neg (f : Nat) (h1 : 1 ≤ f) (h4 : f ≤ 4) (m : Nat) (hm : m < 2 ^ fB f) (w0 : World) (hF : FmtIn w0) : GivesAt Tryz.prog 55 #[.int .i64 f, Wd m] (.bool (wNeg f m)) w0 := by
  have hst := St.start [] w0
  have hk := Lib.hid (fun w (k : Keeps [] w0 w) => hF.keep k (by simp))
  have ha := fun w h => ask_bool f h1 h4 m hm 80 gf80 _ w h (fun w' _ => (class_Neg_1 f m).at w')
  clear hF hm
  generalize wNeg f m = x at *
  go_enter Tryz.func55, Tryz.ntmps55
  go_wp2_with ((first | (refine kg gf79 hst (fun w hst => ha w (hk.out w hst.keeps)) rfl rfl rfl rfl ?_; clear hst; intro w hst) | (refine kb 3 hst rfl rfl ?_; clear hst; intro b3 w hb3 hst) | (refine kl hst ta24 rfl ?_)); try simp only [pz, pn, sz, sc])
  refine bp_t rfl rfl (by rfl) ⟨?_, hst.keeps⟩
  rfl

end Go.Proofs.YtoakmlopjeecoaaGreatDoor.Rd

namespace Go.Proofs.YtoakmlopjeecoaaGreatDoor.Rd
open Go Go.RowKit
set_option linter.unusedVariables false
set_option linter.unusedSimpArgs false
set_option maxRecDepth 100000

/-- A class's kind, for these questions. -/
def spK (k : Nat) : Nat := if k = 1 ∨ k = 2 then 1 else if k = 3 then 2 else if k = 6 then 3 else if k = 4 ∨ k = 5 then 4 else 0
theorem special_of (f : Int) (m k : Nat) (hk : k ≤ 6) (w0 : World) (hc : ∀ w, Keeps [] w0 w → GivesAt Tryz.prog 89 #[.int .i64 f, Wd m] (.int .i64 k) w) : GivesAt Tryz.prog 82 #[.int .i64 f, Wd m] (.int .i64 (spK k : Nat)) w0 := by
  have hst := St.start [] w0
  have hc' := Lib.hid hc
  clear hc
  obtain rfl | rfl | rfl | rfl | rfl | rfl | rfl : k = 0 ∨ k = 1 ∨ k = 2 ∨ k = 3 ∨ k = 4 ∨ k = 5 ∨ k = 6 := by omega
  all_goals
    go_enter Tryz.func82, Tryz.ntmps82
    go_wp2_with ((first | (refine kg gf89 hst (fun w hst => hc'.out w hst.keeps) rfl rfl rfl rfl ?_; clear hst; intro w hst) | (refine kb 3 hst rfl rfl ?_; clear hst; intro b3 w hb3 hst) | (refine kl hst ta24 rfl ?_)); try simp only [pz, pn, sz, sc])
    refine bp_t rfl rfl (by rfl) ⟨?_, hst.keeps⟩
    rfl

end Go.Proofs.YtoakmlopjeecoaaGreatDoor.Rd

namespace Go.Proofs.YtoakmlopjeecoaaGreatDoor.Rd
open Go Go.RowKit
set_option linter.unusedVariables false
set_option linter.unusedSimpArgs false
set_option maxRecDepth 100000

theorem special_rule_zero : Gives Tryz.prog 81 #[.int .i64 4, .int .i64 3] (.string ⟨#[122, 101, 114, 111]⟩) := by
  intro w0
  have hst := St.start [] w0
  go_enter Tryz.func81, Tryz.ntmps81
  go_wp2_with ((first | (go_big_skip)); try simp only [pz, pn, sz, sc])
  refine bp_t rfl rfl (by rfl) ⟨?_, hst.keeps⟩
  rfl

theorem special_Rule_div (f : Int) (a b j k : Nat) (hj : j ≤ 6) (hk : k ≤ 6) (s : ByteArray) (hr : Gives Tryz.prog 81 #[.int .i64 (spK j : Nat), .int .i64 (spK k : Nat)] (.string s)) (w0 : World)
    (ha : ∀ w, Keeps [] w0 w → GivesAt Tryz.prog 89 #[.int .i64 f, Wd a] (.int .i64 j) w) (hb : ∀ w, Keeps [] w0 w → GivesAt Tryz.prog 89 #[.int .i64 f, Wd b] (.int .i64 k) w) :
    GivesAt Tryz.prog 56 #[.int .i64 f, .int .i64 1, Wd a, Wd b] (.string s) w0 := by
  have hst := St.start [] w0
  have h1 := Lib.hid (fun w (kp : Keeps [] w0 w) => special_of f a j hj w (fun w' k' => ha w' (kp.trans k' (by simp))))
  have h2 := Lib.hid (fun w (kp : Keeps [] w0 w) => special_of f b k hk w (fun w' k' => hb w' (kp.trans k' (by simp))))
  clear ha hb hj hk
  generalize spK j = x at *
  generalize spK k = y at *
  go_enter Tryz.func56, Tryz.ntmps56
  go_wp2_with ((first | (refine kb 6 hst rfl rfl ?_; clear hst; intro b6 w hb6 hst) | (refine kb 7 hst rfl rfl ?_; clear hst; intro b7 w hb7 hst) | (refine kl hst ta24 rfl ?_)); try simp only [pz, pn, sz, sc])
  refine wp_region_T 8  hst (by kernel_rfl) ?_; clear hst; intro w hst; (try simp only [List.length_cons, List.length_nil, Nat.reduceAdd, Array.replicate_succ, Array.replicate_zero, List.push_toArray, List.nil_append, List.cons_append])
  refine r0 0 ?_; simp only [pz, pn, sz, sc]
  refine r0 3 ?_; simp only [pz, pn, sz, sc]
  refine rl 1 rfl ?_ (by first | exact ylA ta24 | exact ylM ta24); simp only [pz, pn, sz, sc]
  refine rl 4 rfl ?_ (by first | exact ylA ta24 | exact ylM ta24); simp only [pz, pn, sz, sc]
  refine r1 2 ?_; (first | (refine kg gf82 hst (fun w hst => h1.out w hst.keeps) rfl rfl rfl rfl ?_; clear hst; intro w hst) | (refine kg gf82 hst (fun w hst => h2.out w hst.keeps) rfl rfl rfl rfl ?_; clear hst; intro w hst) | (refine kf gf81 hst (hr) rfl rfl rfl rfl ?_; clear hst; intro w hst) | (refine kp ?_)); (try simp only [pz, pn, sz, sc]); refine re ?_
  refine r1 5 ?_; (first | (refine kg gf82 hst (fun w hst => h1.out w hst.keeps) rfl rfl rfl rfl ?_; clear hst; intro w hst) | (refine kg gf82 hst (fun w hst => h2.out w hst.keeps) rfl rfl rfl rfl ?_; clear hst; intro w hst) | (refine kf gf81 hst (hr) rfl rfl rfl rfl ?_; clear hst; intro w hst) | (refine kp ?_)); (try simp only [pz, pn, sz, sc]); refine re ?_
  refine r1 6 ?_; (first | (refine kg gf82 hst (fun w hst => h1.out w hst.keeps) rfl rfl rfl rfl ?_; clear hst; intro w hst) | (refine kg gf82 hst (fun w hst => h2.out w hst.keeps) rfl rfl rfl rfl ?_; clear hst; intro w hst) | (refine kf gf81 hst (hr) rfl rfl rfl rfl ?_; clear hst; intro w hst) | (refine kp ?_)); (try simp only [pz, pn, sz, sc]); refine re ?_
  refine r0 7 ?_; simp only [pz, pn, sz, sc]
  refine rd_ ?_
  all_goals
    go_wp2_with ((first | (refine kb 6 hst rfl rfl ?_; clear hst; intro b6 w hb6 hst) | (refine kb 7 hst rfl rfl ?_; clear hst; intro b7 w hb7 hst) | (refine kl hst ta24 rfl ?_)); try simp only [pz, pn, sz, sc])
    refine bp_t rfl rfl (by rfl) ⟨?_, hst.keeps⟩
    rfl

end Go.Proofs.YtoakmlopjeecoaaGreatDoor.Rd

namespace Go.Proofs.YtoakmlopjeecoaaGreatDoor.Rd
open Go Go.RowKit
set_option linter.unusedVariables false
set_option linter.unusedSimpArgs false
set_option maxRecDepth 100000

end Go.Proofs.YtoakmlopjeecoaaGreatDoor.Rd

namespace Go.Proofs.YtoakmlopjeecoaaGreatDoor.Rd
open Go Go.RowKit
set_option linter.unusedVariables false
set_option linter.unusedSimpArgs false
set_option maxRecDepth 100000

section
variable (b5 b6 b7 : Nat) (w0 : World)
end

end Go.Proofs.YtoakmlopjeecoaaGreatDoor.Rd
