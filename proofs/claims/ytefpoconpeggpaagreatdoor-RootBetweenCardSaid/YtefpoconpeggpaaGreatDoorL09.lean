/- What unpack.made, Unpack answer. -/
import Derived.Test.YtefpoconpeggpaaGreatDoorL08
namespace Go.Proofs.YtefpoconpeggpaaGreatDoor.Rd
open Go Go.RowKit
set_option linter.unusedVariables false
set_option linter.unusedSimpArgs false
set_option maxRecDepth 100000

theorem ref06_Class_no (f : Nat) (h1 : 1 ≤ f) (h4 : f ≤ 4) (m : Nat) (hm : m < M2) (hf : ¬ m < 2 ^ fB f) : Gives Tryz.prog 64 #[.int .i64 f, Wd m] (.int .i64 0) := by
  intro w0
  have hst := St.start [] w0
  have hfit := ref05_Fits f h1 h4 m hm
  rw [decide_eq_false hf] at hfit
  clear hf hm h1 h4
  go_enter Tryz.func64, Tryz.ntmps64
  go_wp2_with ((first | (refine kf gf68 hst (hfit) rfl rfl rfl rfl ?_; clear hst; intro w hst) | (refine kb 3 hst rfl rfl ?_; clear hst; intro b3 w hb3 hst) | (refine kl hst ta24 rfl ?_)); try simp only [pz, pn, sz, sc])
  refine bp_t rfl rfl (by rfl) ⟨?_, hst.keeps⟩
  rfl

theorem ref06_Class_non (f : Int) (h : f < 1 ∨ 4 < f) (m : Nat) : Gives Tryz.prog 64 #[.int .i64 f, Wd m] (.int .i64 0) := by
  intro w0
  have hst := St.start [] w0
  have hfit := ref05_Fits_no f h m
  clear h
  go_enter Tryz.func64, Tryz.ntmps64
  go_wp2_with ((first | (refine kf gf68 hst (hfit) rfl rfl rfl rfl ?_; clear hst; intro w hst) | (refine kb 3 hst rfl rfl ?_; clear hst; intro b3 w hb3 hst) | (refine kl hst ta24 rfl ?_)); try simp only [pz, pn, sz, sc])
  refine bp_t rfl rfl (by rfl) ⟨?_, hst.keeps⟩
  rfl

set_option maxHeartbeats 4000000 in
theorem ref06_Class (f : Nat) (h1 : 1 ≤ f) (h4 : f ≤ 4) (m : Nat) (hm : m < M2) (hf : m < 2 ^ fB f) : Gives Tryz.prog 64 #[.int .i64 f, Wd m] (.int .i64 (clsN f m : Nat)) := by
  intro w0
  have hst := St.start [] w0
  have hfit := ref05_Fits f h1 h4 m hm
  rw [decide_eq_true hf] at hfit
  have hfd := ref06_Field f h1 h4 m hm
  have hfr := ref06_Fraction f h1 h4 m hm
  have hem := ref05_EMax f h1 h4
  have hpr := ref05_Prec f h1 h4
  have hP := fP_in f
  have hE := fE_in f
  have hbit := ref05_Bit m (fP f - 2) hm (by omega)
  have hbe : m.testBit (fP f - 2) = (wFrac f m).testBit (fP f - 2) := by
    unfold wFrac
    rw [Nat.testBit_mod_two_pow, decide_eq_true (by omega), Bool.true_and]
  rw [hbe, show ((fP f - 2 : Nat) : Int) = (fP f : Int) - 2 by omega] at hbit
  have hfrM : wFrac f m < M := Nat.lt_trans (wFrac_lt f m) (small_M2 (fP f - 1) (by omega))
  have hM := M_pos
  have hfld : wField f m < 65536 := Nat.lt_of_lt_of_le (Nat.mod_lt _ (Nat.pow_pos (by omega))) (Nat.le_trans (Nat.pow_le_pow_right (by omega) (fK_in f).2) (by decide))
  unfold clsN
  clear hbe hf hm h1 h4
  generalize wFrac f m = fr at *
  generalize wField f m = fld at *
  generalize fP f = p at *
  generalize fE f = E at *
  have hW1 : IntKind.i64.wrap ((p : Int) - 2) = (p : Int) - 2 := by rw [IntKind.wrap_i64]; omega
  have hW3 : IntKind.i64.wrap (2 * (E : Int)) = 2 * (E : Int) := by rw [IntKind.wrap_i64]; omega
  have hW4 : IntKind.i64.wrap (2 * (E : Int) + 1) = 2 * (E : Int) + 1 := by rw [IntKind.wrap_i64]; omega
  by_cases hA : fld = 2 * E + 1
  · rw [if_pos hA]
    have qA : (fld : Int) = 2 * (E : Int) + 1 := by omega
    have QA : ((fld : Int) == 2 * (E : Int) + 1) = true := by simpa using qA
    clear hA qA
    by_cases h0 : fr = 0
    · rw [if_pos h0]
      have Q0 : decide (fr = 0) = true := by simpa using h0
      clear h0
      go_enter Tryz.func64, Tryz.ntmps64
      go_wp2_with ((first | (refine kf gf68 hst (hfit) rfl rfl rfl rfl ?_; clear hst; intro w hst) | (refine kf gf34 hst (hfd) rfl rfl rfl rfl ?_; clear hst; intro w hst) | (refine kf gf36 hst (hfr) rfl rfl rfl rfl ?_; clear hst; intro w hst) | (refine kf gf51 hst (hem) rfl rfl rfl rfl ?_; clear hst; intro w hst) | (refine kb 3 hst rfl rfl ?_; clear hst; intro b3 w hb3 hst) | (refine kl hst ta24 rfl ?_) | (refine ke tr44 tc22 rfl ?_)); try simp only [pz, pn, sz, sc])
      refine bp_t rfl rfl (by rfl) ⟨?_, hst.keeps⟩
      rfl
    · rw [if_neg h0]
      have Q0 : decide (fr = 0) = false := by simpa using h0
      clear h0
      cases hb : fr.testBit (p - 2)
      · rw [hb] at hbit
        clear hb
        go_enter Tryz.func64, Tryz.ntmps64
        go_wp2_with ((first | (refine kf gf68 hst (hfit) rfl rfl rfl rfl ?_; clear hst; intro w hst) | (refine kf gf34 hst (hfd) rfl rfl rfl rfl ?_; clear hst; intro w hst) | (refine kf gf36 hst (hfr) rfl rfl rfl rfl ?_; clear hst; intro w hst) | (refine kf gf51 hst (hem) rfl rfl rfl rfl ?_; clear hst; intro w hst) | (refine kb 3 hst rfl rfl ?_; clear hst; intro b3 w hb3 hst) | (refine kl hst ta24 rfl ?_) | (refine ke tr44 tc22 rfl ?_)); try simp only [pz, pn, sz, sc])
        refine wp_region_T 14  hst (by kernel_rfl) ?_; clear hst; intro w hst; (try simp only [List.length_cons, List.length_nil, Nat.reduceAdd, Array.replicate_succ, Array.replicate_zero, List.push_toArray, List.nil_append, List.cons_append])
        refine r0 0 ?_; simp only [pz, pn, sz, sc, hW1, hW3, hW4, QA]
        refine r0 1 ?_; simp only [pz, pn, sz, sc, hW1, hW3, hW4, QA]
        refine r1 2 ?_; (refine kf gf51 hst (hem) rfl rfl rfl rfl ?_; clear hst; intro w hst); (try simp only [pz, pn, sz, sc, hW1, hW3, hW4, QA]); refine re ?_
        refine r0 3 ?_; simp only [pz, pn, sz, sc, hW1, hW3, hW4, QA]
        refine r0 4 ?_; simp only [pz, pn, sz, sc, hW1, hW3, hW4, QA]
        refine r0 5 ?_; simp only [pz, pn, sz, sc, hW1, hW3, hW4, QA]
        refine r0 6 ?_; simp only [pz, pn, sz, sc, hW1, hW3, hW4, QA]
        refine r0 8 ?_; simp only [pz, pn, sz, sc, hW1, hW3, hW4, QA]
        refine rl 7 rfl ?_ (by first | exact ylA ta24 | exact ylM ta24); simp only [pz, pn, sz, sc, hW1, hW3, hW4, QA]
        refine r1 9 ?_; (try refine wl_guard (by rfl) ?_); (refine kf gf25 hst (hpr) rfl rfl rfl rfl ?_; clear hst; intro w hst); (try simp only [pz, pn, sz, sc, hW1, hW3, hW4, QA]); refine re ?_
        refine r0 10 ?_; simp only [pz, pn, sz, sc, hW1, hW3, hW4, QA]
        refine r1 11 ?_; (try refine wl_guard (by rfl) ?_); (refine kf gf67 hst (hbit) rfl rfl rfl rfl ?_; clear hst; intro w hst); (try simp only [pz, pn, sz, sc, hW1, hW3, hW4, QA]); refine re ?_
        refine r0 12 ?_; simp only [pz, pn, sz, sc, hW1, hW3, hW4, QA]
        refine r0 13 ?_; simp only [pz, pn, sz, sc, hW1, hW3, hW4, QA]
        refine rd_ ?_
        all_goals
          go_wp2_with ((first | (refine kf gf51 hst (hem) rfl rfl rfl rfl ?_; clear hst; intro w hst)); try simp only [pz, pn, sz, sc])
          refine bp_t rfl rfl (by rfl) ⟨?_, hst.keeps⟩
          rfl
      · rw [hb] at hbit
        clear hb
        go_enter Tryz.func64, Tryz.ntmps64
        go_wp2_with ((first | (refine kf gf68 hst (hfit) rfl rfl rfl rfl ?_; clear hst; intro w hst) | (refine kf gf34 hst (hfd) rfl rfl rfl rfl ?_; clear hst; intro w hst) | (refine kf gf36 hst (hfr) rfl rfl rfl rfl ?_; clear hst; intro w hst) | (refine kf gf51 hst (hem) rfl rfl rfl rfl ?_; clear hst; intro w hst) | (refine kb 3 hst rfl rfl ?_; clear hst; intro b3 w hb3 hst) | (refine kl hst ta24 rfl ?_) | (refine ke tr44 tc22 rfl ?_)); try simp only [pz, pn, sz, sc])
        refine wp_region_T 14  hst (by kernel_rfl) ?_; clear hst; intro w hst; (try simp only [List.length_cons, List.length_nil, Nat.reduceAdd, Array.replicate_succ, Array.replicate_zero, List.push_toArray, List.nil_append, List.cons_append])
        refine r0 0 ?_; simp only [pz, pn, sz, sc, hW1, hW3, hW4, QA]
        refine r0 1 ?_; simp only [pz, pn, sz, sc, hW1, hW3, hW4, QA]
        refine r1 2 ?_; (refine kf gf51 hst (hem) rfl rfl rfl rfl ?_; clear hst; intro w hst); (try simp only [pz, pn, sz, sc, hW1, hW3, hW4, QA]); refine re ?_
        refine r0 3 ?_; simp only [pz, pn, sz, sc, hW1, hW3, hW4, QA]
        refine r0 4 ?_; simp only [pz, pn, sz, sc, hW1, hW3, hW4, QA]
        refine r0 5 ?_; simp only [pz, pn, sz, sc, hW1, hW3, hW4, QA]
        refine r0 6 ?_; simp only [pz, pn, sz, sc, hW1, hW3, hW4, QA]
        refine r0 8 ?_; simp only [pz, pn, sz, sc, hW1, hW3, hW4, QA]
        refine rl 7 rfl ?_ (by first | exact ylA ta24 | exact ylM ta24); simp only [pz, pn, sz, sc, hW1, hW3, hW4, QA]
        refine r1 9 ?_; (try refine wl_guard (by rfl) ?_); (refine kf gf25 hst (hpr) rfl rfl rfl rfl ?_; clear hst; intro w hst); (try simp only [pz, pn, sz, sc, hW1, hW3, hW4, QA]); refine re ?_
        refine r0 10 ?_; simp only [pz, pn, sz, sc, hW1, hW3, hW4, QA]
        refine r1 11 ?_; (try refine wl_guard (by rfl) ?_); (refine kf gf67 hst (hbit) rfl rfl rfl rfl ?_; clear hst; intro w hst); (try simp only [pz, pn, sz, sc, hW1, hW3, hW4, QA]); refine re ?_
        refine r0 12 ?_; simp only [pz, pn, sz, sc, hW1, hW3, hW4, QA]
        refine r0 13 ?_; simp only [pz, pn, sz, sc, hW1, hW3, hW4, QA]
        refine rd_ ?_
        all_goals
          go_wp2_with fail
          refine bp_t rfl rfl (by rfl) ⟨?_, hst.keeps⟩
          rfl
  · rw [if_neg hA]
    have QA : ((fld : Int) == 2 * (E : Int) + 1) = false := by simp; omega
    clear hA
    by_cases hB : fld = 0
    · rw [if_pos hB]
      have QB : ¬ (0 : Int) < (fld : Int) := by omega
      have QB2 : ¬ 0 < fld := by omega
      have hB' := Lib.hid hB
      clear hB
      by_cases h0 : fr = 0
      · rw [if_pos h0]
        have Q0 : decide (fr = 0) = true := by simpa using h0
        clear h0
        go_enter Tryz.func64, Tryz.ntmps64
        go_wp2_with ((first | (refine kf gf68 hst (hfit) rfl rfl rfl rfl ?_; clear hst; intro w hst) | (refine kf gf34 hst (hfd) rfl rfl rfl rfl ?_; clear hst; intro w hst) | (refine kf gf36 hst (hfr) rfl rfl rfl rfl ?_; clear hst; intro w hst) | (refine kf gf51 hst (hem) rfl rfl rfl rfl ?_; clear hst; intro w hst) | (refine kb 3 hst rfl rfl ?_; clear hst; intro b3 w hb3 hst) | (refine kl hst ta24 rfl ?_) | (refine ke tr44 tc22 rfl ?_)); try simp only [pz, pn, sz, sc])
        refine wp_region_T 14  hst (by kernel_rfl) ?_; clear hst; intro w hst; (try simp only [List.length_cons, List.length_nil, Nat.reduceAdd, Array.replicate_succ, Array.replicate_zero, List.push_toArray, List.nil_append, List.cons_append])
        refine r0 0 ?_; simp only [pz, pn, sz, sc, hW3, hW4, QA]
        refine r0 1 ?_; simp only [pz, pn, sz, sc, hW3, hW4, QA]
        refine r1 2 ?_; (refine kf gf51 hst (hem) rfl rfl rfl rfl ?_; clear hst; intro w hst); (try simp only [pz, pn, sz, sc, hW3, hW4, QA]); refine re ?_
        refine r0 3 ?_; simp only [pz, pn, sz, sc, hW3, hW4, QA]
        refine r0 4 ?_; simp only [pz, pn, sz, sc, hW3, hW4, QA]
        refine r0 5 ?_; simp only [pz, pn, sz, sc, hW3, hW4, QA]
        refine r0 6 ?_; simp only [pz, pn, sz, sc, hW3, hW4, QA]
        refine rp 7 ?_; simp only [pz, pn, sz, sc, hW3, hW4, QA]
        refine rp 8 ?_; simp only [pz, pn, sz, sc, hW3, hW4, QA]
        refine rp 9 ?_; simp only [pz, pn, sz, sc, hW3, hW4, QA]
        refine rp 10 ?_; simp only [pz, pn, sz, sc, hW3, hW4, QA]
        refine rp 11 ?_; simp only [pz, pn, sz, sc, hW3, hW4, QA]
        refine r0 12 ?_; simp only [pz, pn, sz, sc, hW3, hW4, QA]
        refine r0 13 ?_; simp only [pz, pn, sz, sc, hW3, hW4, QA]
        refine rd_ ?_
        all_goals
          go_wp2_with ((first | (refine kf gf51 hst (hem) rfl rfl rfl rfl ?_; clear hst; intro w hst)); try simp only [pz, pn, sz, sc])
          refine bp_t rfl rfl (by rfl) ⟨?_, hst.keeps⟩
          rfl
      · rw [if_neg h0]
        have Q0 : decide (fr = 0) = false := by simpa using h0
        clear h0
        go_enter Tryz.func64, Tryz.ntmps64
        go_wp2_with ((first | (refine kf gf68 hst (hfit) rfl rfl rfl rfl ?_; clear hst; intro w hst) | (refine kf gf34 hst (hfd) rfl rfl rfl rfl ?_; clear hst; intro w hst) | (refine kf gf36 hst (hfr) rfl rfl rfl rfl ?_; clear hst; intro w hst) | (refine kf gf51 hst (hem) rfl rfl rfl rfl ?_; clear hst; intro w hst) | (refine kb 3 hst rfl rfl ?_; clear hst; intro b3 w hb3 hst) | (refine kl hst ta24 rfl ?_) | (refine ke tr44 tc22 rfl ?_)); try simp only [pz, pn, sz, sc])
        refine wp_region_T 14  hst (by kernel_rfl) ?_; clear hst; intro w hst; (try simp only [List.length_cons, List.length_nil, Nat.reduceAdd, Array.replicate_succ, Array.replicate_zero, List.push_toArray, List.nil_append, List.cons_append])
        refine r0 0 ?_; simp only [pz, pn, sz, sc, hW3, hW4, QA]
        refine r0 1 ?_; simp only [pz, pn, sz, sc, hW3, hW4, QA]
        refine r1 2 ?_; (refine kf gf51 hst (hem) rfl rfl rfl rfl ?_; clear hst; intro w hst); (try simp only [pz, pn, sz, sc, hW3, hW4, QA]); refine re ?_
        refine r0 3 ?_; simp only [pz, pn, sz, sc, hW3, hW4, QA]
        refine r0 4 ?_; simp only [pz, pn, sz, sc, hW3, hW4, QA]
        refine r0 5 ?_; simp only [pz, pn, sz, sc, hW3, hW4, QA]
        refine r0 6 ?_; simp only [pz, pn, sz, sc, hW3, hW4, QA]
        refine rp 7 ?_; simp only [pz, pn, sz, sc, hW3, hW4, QA]
        refine rp 8 ?_; simp only [pz, pn, sz, sc, hW3, hW4, QA]
        refine rp 9 ?_; simp only [pz, pn, sz, sc, hW3, hW4, QA]
        refine rp 10 ?_; simp only [pz, pn, sz, sc, hW3, hW4, QA]
        refine rp 11 ?_; simp only [pz, pn, sz, sc, hW3, hW4, QA]
        refine r0 12 ?_; simp only [pz, pn, sz, sc, hW3, hW4, QA]
        refine r0 13 ?_; simp only [pz, pn, sz, sc, hW3, hW4, QA]
        refine rd_ ?_
        all_goals
          go_wp2_with ((first | (refine kf gf51 hst (hem) rfl rfl rfl rfl ?_; clear hst; intro w hst)); try simp only [pz, pn, sz, sc])
          refine bp_t rfl rfl (by rfl) ⟨?_, hst.keeps⟩
          rfl
    · rw [if_neg hB]
      have QB : (0 : Int) < (fld : Int) := by omega
      have QB2 : 0 < fld := by omega
      clear hB
      go_enter Tryz.func64, Tryz.ntmps64
      go_wp2_with ((first | (refine kf gf68 hst (hfit) rfl rfl rfl rfl ?_; clear hst; intro w hst) | (refine kf gf34 hst (hfd) rfl rfl rfl rfl ?_; clear hst; intro w hst) | (refine kf gf36 hst (hfr) rfl rfl rfl rfl ?_; clear hst; intro w hst) | (refine kf gf51 hst (hem) rfl rfl rfl rfl ?_; clear hst; intro w hst) | (refine kb 3 hst rfl rfl ?_; clear hst; intro b3 w hb3 hst) | (refine kl hst ta24 rfl ?_) | (refine ke tr44 tc22 rfl ?_)); try simp only [pz, pn, sz, sc])
      refine wp_region_T 14  hst (by kernel_rfl) ?_; clear hst; intro w hst; (try simp only [List.length_cons, List.length_nil, Nat.reduceAdd, Array.replicate_succ, Array.replicate_zero, List.push_toArray, List.nil_append, List.cons_append])
      refine r0 0 ?_; simp only [pz, pn, sz, sc, hW3, hW4, QA]
      refine r0 1 ?_; simp only [pz, pn, sz, sc, hW3, hW4, QA]
      refine r1 2 ?_; (refine kf gf51 hst (hem) rfl rfl rfl rfl ?_; clear hst; intro w hst); (try simp only [pz, pn, sz, sc, hW3, hW4, QA]); refine re ?_
      refine r0 3 ?_; simp only [pz, pn, sz, sc, hW3, hW4, QA]
      refine r0 4 ?_; simp only [pz, pn, sz, sc, hW3, hW4, QA]
      refine r0 5 ?_; simp only [pz, pn, sz, sc, hW3, hW4, QA]
      refine r0 6 ?_; simp only [pz, pn, sz, sc, hW3, hW4, QA]
      refine rp 7 ?_; simp only [pz, pn, sz, sc, hW3, hW4, QA]
      refine rp 8 ?_; simp only [pz, pn, sz, sc, hW3, hW4, QA]
      refine rp 9 ?_; simp only [pz, pn, sz, sc, hW3, hW4, QA]
      refine rp 10 ?_; simp only [pz, pn, sz, sc, hW3, hW4, QA]
      refine rp 11 ?_; simp only [pz, pn, sz, sc, hW3, hW4, QA]
      refine r0 12 ?_; simp only [pz, pn, sz, sc, hW3, hW4, QA]
      refine r0 13 ?_; simp only [pz, pn, sz, sc, hW3, hW4, QA]
      refine rd_ ?_
      all_goals
        go_wp2_with ((first | (refine kf gf51 hst (hem) rfl rfl rfl rfl ?_; clear hst; intro w hst)); try simp only [pz, pn, sz, sc])
        refine bp_t rfl rfl (by rfl) ⟨?_, hst.keeps⟩
        rfl

end Go.Proofs.YtefpoconpeggpaaGreatDoor.Rd

namespace Go.Proofs.YtefpoconpeggpaaGreatDoor.Rd
open Go Go.RowKit
set_option linter.unusedVariables false
set_option linter.unusedSimpArgs false
set_option maxRecDepth 100000

/-- A finite word's exponent. -/
def wExp (f m : Nat) : Int := ((wField f m - 1 : Nat) : Int) + (1 - (fE f : Int)) - fP f + 1
theorem wField_lt (f m : Nat) : wField f m < 32768 := Nat.lt_of_lt_of_le (Nat.mod_lt _ (Nat.pow_pos (by omega))) (Nat.le_trans (Nat.pow_le_pow_right (by omega) (fK_in f).2) (by decide))

set_option maxHeartbeats 4000000 in
theorem unpack_made (f : Nat) (h1 : 1 ≤ f) (h4 : f ≤ 4) (m : Nat) (hm : m < 2 ^ fB f) (hfin : finB f m = true) (g : FuncId) (hg : GoF Tryz.prog g) (r : Array Value) (bo : Bool) (hr1 : r.size = 10) (hr2 : OneC r) (w0 : World) (hF : FmtIn w0)
    (hgv : ∀ w, Keeps [] w0 w → GivesAt Tryz.prog g #[.agg (fmC f), .agg (nbC (wNeg f m) (wExp f m) (wSig f m))] (.tuple #[.agg r, .bool bo]) w) : GivesAt Tryz.prog 101 #[.int .i64 f, Wd m, .func (.func g) #[] #[]] (.tuple #[.agg r, .bool bo]) w0 := by
  have hst := St.start [] w0
  have hk := Lib.hid (fun w (k : Keeps [] w0 w) => hF.keep k (by simp))
  have hm2 : m < M2 := Nat.lt_of_lt_of_le hm (by
    have := (fB_in f).2
    exact Nat.pow_le_pow_right (by omega) this)
  have hfi := fun w h => class_Finite f h1 h4 m hm2 w h
  rw [hfin] at hfi
  have hof := fun w h => format_Of f h1 h4 w h
  have hfd := fun w h => class_Field f h1 h4 m hm w h
  have hfr := fun w h => class_Fraction f h1 h4 m hm w h
  have hng := fun w h => class_Neg f h1 h4 m hm w h
  have hP := fP_in f
  have hE := fE_in f
  have hl := wField_lt f m
  have hfl := wFrac_lt f m
  have z1 := fmC_size f
  have z2 := fmC_one f
  have g1 : (fmC f)[0 + 1]? = some (.int .i64 (fP f : Nat)) := rfl
  have g3 : (fmC f)[0 + 3]? = some (.int .i64 (1 - (fE f : Int))) := rfl
  have hw1 : IntKind.i64.wrap ((fP f : Int) - 1) = (fP f : Int) - 1 := by rw [IntKind.wrap_i64]; omega
  have hgv' := Lib.hid hgv
  unfold nbC at hgv'
  by_cases h0 : wField f m = 0
  · have e1 : wSig f m = wFrac f m := by unfold wSig; rw [if_pos h0]
    have e2 : wExp f m = 0 + (1 - (fE f : Int)) - fP f + 1 := by unfold wExp; rw [h0]; rfl
    have W1 : IntKind.i64.wrap (0 + (1 - (fE f : Int))) = 0 + (1 - (fE f : Int)) := by rw [IntKind.wrap_i64]; omega
    have W2 : IntKind.i64.wrap (0 + (1 - (fE f : Int)) - fP f) = 0 + (1 - (fE f : Int)) - fP f := by rw [IntKind.wrap_i64]; omega
    have W3 : IntKind.i64.wrap (0 + (1 - (fE f : Int)) - fP f + 1) = 0 + (1 - (fE f : Int)) - fP f + 1 := by rw [IntKind.wrap_i64]; omega
    have V1 : IntKind.i64.wrap (1 - (fE f : Int)) = 1 - (fE f : Int) := by rw [IntKind.wrap_i64]; omega
    have V2 : IntKind.i64.wrap (1 - (fE f : Int) - fP f) = 1 - (fE f : Int) - fP f := by rw [IntKind.wrap_i64]; omega
    have V3 : IntKind.i64.wrap (1 - (fE f : Int) - fP f + 1) = 1 - (fE f : Int) - fP f + 1 := by rw [IntKind.wrap_i64]; omega
    rw [e1, e2, Int.zero_add] at hgv'
    rw [h0, show ((0 : Nat) : Int) = 0 from rfl] at hfd
    clear hF hm hm2 hgv e1 e2 h0 hl hfl hfin
    generalize wFrac f m = fr at *
    generalize wNeg f m = ng at *
    generalize fmC f = cs at *
    go_enter Tryz.func101, Tryz.ntmps101
    go_wp2_with ((first | (refine kg gf124 hst (fun w hst => hfi w (hk.out w hst.keeps)) rfl rfl rfl rfl ?_; clear hst; intro w hst) | (refine kg gf70 hst (fun w hst => hof w (hk.out w hst.keeps)) rfl rfl rfl rfl ?_; clear hst; intro w hst) | (refine kb 4 hst rfl rfl ?_; clear hst; intro b4 w hb4 hst) | (refine ka 6 hst tz46 rfl rfl ?_; clear hst; intro b6 w hb6 hst) | (refine kl hst ta24 rfl ?_) | (refine ka 8 hst tz128 rfl rfl ?_; clear hst; intro b8 w hb8 hst) | (refine kt hst ta128 rfl rfl ?_; clear hst; intro w hst)); try simp only [pz, pn, sz, sc])
    refine wp_region_T 8  hst (by kernel_rfl) ?_; clear hst; intro w hst; (try simp only [List.length_cons, List.length_nil, Nat.reduceAdd, Array.replicate_succ, Array.replicate_zero, List.push_toArray, List.nil_append, List.cons_append])
    refine r0 0 ?_; simp only [pz, pn, sz, sc]
    refine r0 3 ?_; simp only [pz, pn, sz, sc]
    refine rl 1 rfl ?_ (by first | exact ylA ta24 | exact ylM ta24); simp only [pz, pn, sz, sc]
    refine rl 4 rfl ?_ (by first | exact ylA ta24 | exact ylM ta24); simp only [pz, pn, sz, sc]
    refine r2 2 6 ?_ ?_
    (refine kg gf125 hst (fun w hst => hfd w (hk.out w hst.keeps)) rfl rfl rfl rfl ?_; clear hst; intro w hst); (try simp only [pz, pn, sz, sc]); refine re ?_
    refine r2 5 6 ?_ ?_
    (refine kg gf126 hst (fun w hst => hfr w (hk.out w hst.keeps)) rfl rfl rfl rfl ?_; clear hst; intro w hst); (try simp only [pz, pn, sz, sc]); refine re ?_
    refine r1 6 ?_; (refine ka 11 hst tz44 rfl rfl ?_; clear hst; intro b11 w hb11 hst); (try simp only [pz, pn, sz, sc]); refine re ?_
    refine r0 7 ?_; simp only [pz, pn, sz, sc]
    refine r1 8 ?_; (refine kt hst ta44 rfl rfl ?_; clear hst; intro w hst); (try simp only [pz, pn, sz, sc]); refine re ?_
    refine rd_ ?_
    rotate_left 1
    (refine ka 11 hst tz44 rfl rfl ?_; clear hst; intro b11 w hb11 hst); (try simp only [pz, pn, sz, sc]); refine re ?_
    refine r1 5 ?_; (refine kg gf126 hst (fun w hst => hfr w (hk.out w hst.keeps)) rfl rfl rfl rfl ?_; clear hst; intro w hst); (try simp only [pz, pn, sz, sc]); refine re ?_
    refine r0 7 ?_; simp only [pz, pn, sz, sc]
    refine r1 8 ?_; (refine kt hst ta44 rfl rfl ?_; clear hst; intro w hst); (try simp only [pz, pn, sz, sc]); refine re ?_
    refine rd_ ?_
    rotate_right 1
    rotate_left 2
    (refine ka 11 hst tz44 rfl rfl ?_; clear hst; intro b11 w hb11 hst); (try simp only [pz, pn, sz, sc]); refine re ?_
    refine r1 2 ?_; (refine kg gf125 hst (fun w hst => hfd w (hk.out w hst.keeps)) rfl rfl rfl rfl ?_; clear hst; intro w hst); (try simp only [pz, pn, sz, sc]); refine re ?_
    refine r1 5 ?_; (refine kg gf126 hst (fun w hst => hfr w (hk.out w hst.keeps)) rfl rfl rfl rfl ?_; clear hst; intro w hst); (try simp only [pz, pn, sz, sc]); refine re ?_
    refine r0 7 ?_; simp only [pz, pn, sz, sc]
    refine r1 8 ?_; (refine kt hst ta44 rfl rfl ?_; clear hst; intro w hst); (try simp only [pz, pn, sz, sc]); refine re ?_
    refine rd_ ?_
    rotate_right 2
    all_goals
      go_wp2_with fail
      refine wp_region_T 18  hst (by kernel_rfl) ?_; clear hst; intro w hst; (try simp only [List.length_cons, List.length_nil, Nat.reduceAdd, Array.replicate_succ, Array.replicate_zero, List.push_toArray, List.nil_append, List.cons_append])
      refine r0 0 ?_; simp only [pz, pn, sz, sc, W1, W2, W3, V1, V2, V3, Int.zero_add]
      refine r0 2 ?_; simp only [pz, pn, sz, sc, W1, W2, W3, V1, V2, V3, Int.zero_add]
      refine r0 5 ?_; simp only [pz, pn, sz, sc, W1, W2, W3, V1, V2, V3, Int.zero_add]
      refine r0 6 ?_; simp only [pz, pn, sz, sc, W1, W2, W3, V1, V2, V3, Int.zero_add]
      refine r0 9 ?_; simp only [pz, pn, sz, sc, W1, W2, W3, V1, V2, V3, Int.zero_add]
      refine rl 1 rfl ?_ (by first | exact ylA ta128 | exact ylM ta128); simp only [pz, pn, sz, sc, W1, W2, W3, V1, V2, V3, Int.zero_add]
      refine rl 3 rfl ?_ (by first | exact ylA ta24 | exact ylM ta24); simp only [pz, pn, sz, sc, W1, W2, W3, V1, V2, V3, Int.zero_add]
      refine rl 7 rfl ?_ (ylC tc3); simp only [pz, pn, sz, sc, W1, W2, W3, V1, V2, V3, Int.zero_add]
      refine r0 8 ?_; simp only [pz, pn, sz, sc, W1, W2, W3, V1, V2, V3, Int.zero_add]
      refine rl 10 rfl ?_ (ylC tc3); simp only [pz, pn, sz, sc, W1, W2, W3, V1, V2, V3, Int.zero_add]
      refine r0 11 ?_; simp only [pz, pn, sz, sc, W1, W2, W3, V1, V2, V3, Int.zero_add]
      refine r0 12 ?_; simp only [pz, pn, sz, sc, W1, W2, W3, V1, V2, V3, Int.zero_add]
      refine rl 13 rfl ?_ (by first | exact ylA ta44 | exact ylM ta44); simp only [pz, pn, sz, sc, W1, W2, W3, V1, V2, V3, Int.zero_add]
      refine r1 4 ?_; (refine kg gf128 hst (fun w hst => hng w (hk.out w hst.keeps)) rfl rfl rfl rfl ?_; clear hst; intro w hst); (try simp only [pz, pn, sz, sc, W1, W2, W3, V1, V2, V3, Int.zero_add]); refine re ?_
      refine r0 14 ?_ (hy := yB (tb46_012 _ _ _)); simp only [pz, pn, sz, sc, W1, W2, W3, V1, V2, V3, Int.zero_add]
      refine r1 15 ?_; (refine kg hg hst (fun w hst => hgv'.out w hst.keeps) rfl rfl rfl rfl ?_; clear hst; intro w hst); (try simp only [pz, pn, sz, sc, W1, W2, W3, V1, V2, V3, Int.zero_add]); refine re ?_
      refine r0 16 ?_; simp only [pz, pn, sz, sc, W1, W2, W3, V1, V2, V3, Int.zero_add]
      refine r0 17 ?_; simp only [pz, pn, sz, sc, W1, W2, W3, V1, V2, V3, Int.zero_add]
      refine r1 18 ?_; (refine kt hst ta46 rfl rfl ?_; clear hst; intro w hst); (try simp only [pz, pn, sz, sc, W1, W2, W3, V1, V2, V3, Int.zero_add]); refine re ?_
      refine r0 19 ?_; simp only [pz, pn, sz, sc, W1, W2, W3, V1, V2, V3, Int.zero_add]
      refine rd_ ?_
      all_goals
        go_wp2_with fail
        refine bp_ct rfl rfl (la hst ta46) (by rfl) ⟨?_, hst.keeps⟩
        rfl
  · have e1 : wSig f m = wFrac f m + 2 ^ (fP f - 1) := by unfold wSig; rw [if_neg h0]
    obtain ⟨d, hd⟩ : ∃ d, wField f m = d + 1 := ⟨wField f m - 1, by omega⟩
    have e2 : wExp f m = (d : Int) + (1 - (fE f : Int)) - fP f + 1 := by unfold wExp; rw [hd]; rfl
    have hpM : 2 ^ (fP f - 1) < M := small_M2 _ (by omega)
    have hpw := wide_Power ((fP f : Int) - 1)
    have hp2 : pow2 ((fP f : Int) - 1) = 2 ^ (fP f - 1) := by
      unfold pow2
      rw [if_pos (by omega)]
      congr 1; omega
    rw [hp2] at hpw
    have hsg : wFrac f m + 2 ^ (fP f - 1) < M := by
      have := small_M2 (fP f) (by omega)
      have e : 2 ^ fP f = 2 ^ (fP f - 1) + 2 ^ (fP f - 1) := by
        obtain ⟨p, hp⟩ : ∃ p, fP f = p + 1 := ⟨fP f - 1, by omega⟩
        rw [hp, Nat.add_sub_cancel, Nat.pow_succ]; omega
      omega
    have hadd := wide_Add (wFrac f m) (2 ^ (fP f - 1)) (by omega) hpM
    rw [Nat.mod_eq_of_lt hsg] at hadd
    have W1 : IntKind.i64.wrap ((d : Int) + (1 - (fE f : Int))) = (d : Int) + (1 - (fE f : Int)) := by rw [IntKind.wrap_i64]; omega
    have W2 : IntKind.i64.wrap ((d : Int) + (1 - (fE f : Int)) - fP f) = (d : Int) + (1 - (fE f : Int)) - fP f := by rw [IntKind.wrap_i64]; omega
    have W3 : IntKind.i64.wrap ((d : Int) + (1 - (fE f : Int)) - fP f + 1) = (d : Int) + (1 - (fE f : Int)) - fP f + 1 := by rw [IntKind.wrap_i64]; omega
    rw [e1, e2] at hgv'
    rw [hd, show ((d + 1 : Nat) : Int) = (d : Int) + 1 by omega] at hfd
    have hd0 : (0 : Int) < (d : Int) + 1 := by omega
    have hdl : d < 32768 := by omega
    clear hF hm hm2 hgv e1 e2 h0 hl hfl hfin hd hpM hp2 hsg
    generalize wFrac f m + 2 ^ (fP f - 1) = sg at *
    generalize 2 ^ (fP f - 1) = pw at *
    generalize wFrac f m = fr at *
    generalize wNeg f m = ng at *
    generalize fmC f = cs at *
    go_enter Tryz.func101, Tryz.ntmps101
    go_wp2_with ((first | (refine kg gf124 hst (fun w hst => hfi w (hk.out w hst.keeps)) rfl rfl rfl rfl ?_; clear hst; intro w hst) | (refine kg gf70 hst (fun w hst => hof w (hk.out w hst.keeps)) rfl rfl rfl rfl ?_; clear hst; intro w hst) | (refine kb 4 hst rfl rfl ?_; clear hst; intro b4 w hb4 hst) | (refine ka 6 hst tz46 rfl rfl ?_; clear hst; intro b6 w hb6 hst) | (refine kl hst ta24 rfl ?_) | (refine ka 8 hst tz128 rfl rfl ?_; clear hst; intro b8 w hb8 hst) | (refine kt hst ta128 rfl rfl ?_; clear hst; intro w hst)); try simp only [pz, pn, sz, sc])
    refine wp_region_T 8  hst (by kernel_rfl) ?_; clear hst; intro w hst; (try simp only [List.length_cons, List.length_nil, Nat.reduceAdd, Array.replicate_succ, Array.replicate_zero, List.push_toArray, List.nil_append, List.cons_append])
    refine r0 0 ?_; simp only [pz, pn, sz, sc]
    refine r0 3 ?_; simp only [pz, pn, sz, sc]
    refine rl 1 rfl ?_ (by first | exact ylA ta24 | exact ylM ta24); simp only [pz, pn, sz, sc]
    refine rl 4 rfl ?_ (by first | exact ylA ta24 | exact ylM ta24); simp only [pz, pn, sz, sc]
    refine r2 2 6 ?_ ?_
    (refine kg gf125 hst (fun w hst => hfd w (hk.out w hst.keeps)) rfl rfl rfl rfl ?_; clear hst; intro w hst); (try simp only [pz, pn, sz, sc]); refine re ?_
    refine r2 5 6 ?_ ?_
    (refine kg gf126 hst (fun w hst => hfr w (hk.out w hst.keeps)) rfl rfl rfl rfl ?_; clear hst; intro w hst); (try simp only [pz, pn, sz, sc]); refine re ?_
    refine r1 6 ?_; (refine ka 11 hst tz44 rfl rfl ?_; clear hst; intro b11 w hb11 hst); (try simp only [pz, pn, sz, sc]); refine re ?_
    refine r0 7 ?_; simp only [pz, pn, sz, sc]
    refine r1 8 ?_; (refine kt hst ta44 rfl rfl ?_; clear hst; intro w hst); (try simp only [pz, pn, sz, sc]); refine re ?_
    refine rd_ ?_
    rotate_left 1
    (refine ka 11 hst tz44 rfl rfl ?_; clear hst; intro b11 w hb11 hst); (try simp only [pz, pn, sz, sc]); refine re ?_
    refine r1 5 ?_; (refine kg gf126 hst (fun w hst => hfr w (hk.out w hst.keeps)) rfl rfl rfl rfl ?_; clear hst; intro w hst); (try simp only [pz, pn, sz, sc]); refine re ?_
    refine r0 7 ?_; simp only [pz, pn, sz, sc]
    refine r1 8 ?_; (refine kt hst ta44 rfl rfl ?_; clear hst; intro w hst); (try simp only [pz, pn, sz, sc]); refine re ?_
    refine rd_ ?_
    rotate_right 1
    rotate_left 2
    (refine ka 11 hst tz44 rfl rfl ?_; clear hst; intro b11 w hb11 hst); (try simp only [pz, pn, sz, sc]); refine re ?_
    refine r1 2 ?_; (refine kg gf125 hst (fun w hst => hfd w (hk.out w hst.keeps)) rfl rfl rfl rfl ?_; clear hst; intro w hst); (try simp only [pz, pn, sz, sc]); refine re ?_
    refine r1 5 ?_; (refine kg gf126 hst (fun w hst => hfr w (hk.out w hst.keeps)) rfl rfl rfl rfl ?_; clear hst; intro w hst); (try simp only [pz, pn, sz, sc]); refine re ?_
    refine r0 7 ?_; simp only [pz, pn, sz, sc]
    refine r1 8 ?_; (refine kt hst ta44 rfl rfl ?_; clear hst; intro w hst); (try simp only [pz, pn, sz, sc]); refine re ?_
    refine rd_ ?_
    rotate_right 2
    all_goals
      go_wp2_with fail
      refine wp_region_T 9  hst (by kernel_rfl) ?_; clear hst; intro w hst; (try simp only [List.length_cons, List.length_nil, Nat.reduceAdd, Array.replicate_succ, Array.replicate_zero, List.push_toArray, List.nil_append, List.cons_append])
      refine r0 1 ?_; simp only [pz, pn, sz, sc, hw1]
      refine rl 0 rfl ?_ (by first | exact ylA ta44 | exact ylM ta44); simp only [pz, pn, sz, sc, hw1]
      refine rl 2 rfl ?_ (ylC tc3); simp only [pz, pn, sz, sc, hw1]
      refine r0 3 ?_; simp only [pz, pn, sz, sc, hw1]
      refine r1 4 ?_; (refine kf gf127 hst (hpw) rfl rfl rfl rfl ?_; clear hst; intro w hst); (try simp only [pz, pn, sz, sc, hw1]); refine re ?_
      refine r1 5 ?_; (refine kf gf104 hst (hadd) rfl rfl rfl rfl ?_; clear hst; intro w hst); (try simp only [pz, pn, sz, sc, hw1]); refine re ?_
      refine r0 6 ?_; simp only [pz, pn, sz, sc, hw1]
      refine r0 7 ?_; simp only [pz, pn, sz, sc, hw1]
      refine r0 8 ?_; simp only [pz, pn, sz, sc, hw1]
      refine r1 9 ?_; (refine kt hst ta44 rfl rfl ?_; clear hst; intro w hst); (try simp only [pz, pn, sz, sc, hw1]); refine re ?_
      refine rd_ ?_
      all_goals
        go_wp2_with fail
        refine wp_region_T 18  hst (by kernel_rfl) ?_; clear hst; intro w hst; (try simp only [List.length_cons, List.length_nil, Nat.reduceAdd, Array.replicate_succ, Array.replicate_zero, List.push_toArray, List.nil_append, List.cons_append])
        refine r0 0 ?_; simp only [pz, pn, sz, sc, W1, W2, W3]
        refine r0 2 ?_; simp only [pz, pn, sz, sc, W1, W2, W3]
        refine r0 5 ?_; simp only [pz, pn, sz, sc, W1, W2, W3]
        refine r0 6 ?_; simp only [pz, pn, sz, sc, W1, W2, W3]
        refine r0 9 ?_; simp only [pz, pn, sz, sc, W1, W2, W3]
        refine rl 1 rfl ?_ (by first | exact ylA ta128 | exact ylM ta128); simp only [pz, pn, sz, sc, W1, W2, W3]
        refine rl 3 rfl ?_ (by first | exact ylA ta24 | exact ylM ta24); simp only [pz, pn, sz, sc, W1, W2, W3]
        refine rl 7 rfl ?_ (ylC tc3); simp only [pz, pn, sz, sc, W1, W2, W3]
        refine r0 8 ?_; simp only [pz, pn, sz, sc, W1, W2, W3]
        refine rl 10 rfl ?_ (ylC tc3); simp only [pz, pn, sz, sc, W1, W2, W3]
        refine r0 11 ?_; simp only [pz, pn, sz, sc, W1, W2, W3]
        refine r0 12 ?_; simp only [pz, pn, sz, sc, W1, W2, W3]
        refine rl 13 rfl ?_ (by first | exact ylA ta44 | exact ylM ta44); simp only [pz, pn, sz, sc, W1, W2, W3]
        refine r1 4 ?_; (refine kg gf128 hst (fun w hst => hng w (hk.out w hst.keeps)) rfl rfl rfl rfl ?_; clear hst; intro w hst); (try simp only [pz, pn, sz, sc, W1, W2, W3]); refine re ?_
        refine r0 14 ?_ (hy := yB (tb46_012 _ _ _)); simp only [pz, pn, sz, sc, W1, W2, W3]
        refine r1 15 ?_; (refine kg hg hst (fun w hst => hgv'.out w hst.keeps) rfl rfl rfl rfl ?_; clear hst; intro w hst); (try simp only [pz, pn, sz, sc, W1, W2, W3]); refine re ?_
        refine r0 16 ?_; simp only [pz, pn, sz, sc, W1, W2, W3]
        refine r0 17 ?_; simp only [pz, pn, sz, sc, W1, W2, W3]
        refine r1 18 ?_; (refine kt hst ta46 rfl rfl ?_; clear hst; intro w hst); (try simp only [pz, pn, sz, sc, W1, W2, W3]); refine re ?_
        refine r0 19 ?_; simp only [pz, pn, sz, sc, W1, W2, W3]
        refine rd_ ?_
        all_goals
          go_wp2_with fail
          refine bp_ct rfl rfl (la hst ta46) (by rfl) ⟨?_, hst.keeps⟩
          rfl

theorem nbC_zero : nbC false 0 0 = #[.bool false, .int .i64 0, .int .u64 0, .int .u64 0, .int .u64 0, .int .u64 0, .int .u64 0, .int .u64 0, .int .u64 0, .int .u64 0] := by kernel_rfl

theorem unpack_Unpack_1 (f : Nat) (ng : Bool) (e : Int) (n : Nat) (he1 : -100000 ≤ e) (he2 : e ≤ 100000) (hn : n ≠ 0) (hnP : n < 2 ^ fP f) : Gives Tryz.prog 102 #[.agg (fmC f), .agg (nbC ng e n)] (.tuple #[.agg (nbC ng (e - (fP f - bl n : Nat)) (n * 2 ^ (fP f - bl n))), .bool true]) := by
  intro w0
  have hst := St.start [] w0
  have hP := fP_in f
  have hnM : n < M := Nat.lt_trans hnP (small_M2 _ (by omega))
  have hlen := wide_Len n hnM
  have hbl : bl n ≤ fP f := bl_le.2 hnP
  have hlt : n * 2 ^ (fP f - bl n) < M := by
    have a := (bl_spec n).1
    have := Nat.mul_lt_mul_of_pos_right a (show 0 < 2 ^ (fP f - bl n) from Nat.pow_pos (by omega))
    rw [← Nat.pow_add, show bl n + (fP f - bl n) = fP f by omega] at this
    exact Nat.lt_trans this (small_M2 _ (by omega))
  have hshl := wide_Shl n (fP f - bl n : Nat) hnM
  rw [clampN_nat _ (by omega), Nat.mod_eq_of_lt hlt] at hshl
  have c1 : ((fP f - bl n : Nat) : Int) = (fP f : Int) - (bl n : Int) := by omega
  rw [c1] at hshl ⊢
  have hW1 : IntKind.i64.wrap ((fP f : Int) - (bl n : Int)) = (fP f : Int) - (bl n : Int) := by rw [IntKind.wrap_i64]; omega
  have hW2 : IntKind.i64.wrap (e - ((fP f : Int) - (bl n : Int))) = e - ((fP f : Int) - (bl n : Int)) := by rw [IntKind.wrap_i64]; omega
  have Q0 : decide (n = 0) = false := by simpa using hn
  have hM := M_pos
  have z1 := fmC_size f
  have z2 := fmC_one f
  have g1 : (fmC f)[0 + 1]? = some (.int .i64 (fP f : Nat)) := rfl
  unfold nbC
  have y1 : (#[Value.bool ng, .int .i64 e] ++ wc 8 n).size = 10 := by simp
  have y2 : OneC (#[Value.bool ng, .int .i64 e] ++ wc 8 n) := nbC_one ng e n
  generalize n * 2 ^ (fP f - bl n) = n2 at *
  generalize bl n = k at *
  generalize fP f = p at *
  generalize fmC f = cs at *
  clear hlt c1 hnP hn
  go_enter Tryz.func102, Tryz.ntmps102
  go_wp2_with ((first | (refine klm hst ta44 rfl ?_ (hc := part1 2 _ _ _ rfl rfl)) | (refine kb 2 hst rfl rfl ?_; clear hst; intro b2 w hb2 hst) | (refine kb 3 hst rfl rfl ?_; clear hst; intro b3 w hb3 hst) | (refine ka 4 hst tz46 rfl rfl ?_; clear hst; intro b4 w hb4 hst) | (refine ke tr44 tc22 rfl ?_)); try simp only [pz, pn, sz, sc])
  refine wp_region_T 7  hst (by kernel_rfl) ?_; clear hst; intro w hst; (try simp only [List.length_cons, List.length_nil, Nat.reduceAdd, Array.replicate_succ, Array.replicate_zero, List.push_toArray, List.nil_append, List.cons_append])
  refine r0 0 ?_; simp only [pz, pn, sz, sc, hW1]
  refine r0 2 ?_; simp only [pz, pn, sz, sc, hW1]
  refine rl 1 rfl ?_ (ylC tc3); simp only [pz, pn, sz, sc, hW1]
  refine rl 3 rfl ?_ (by first | exact ylA ta44 | exact ylM ta44); simp only [pz, pn, sz, sc, hW1]
  refine r1 4 ?_; (refine kf gf47 hst (hlen) rfl rfl rfl rfl ?_; clear hst; intro w hst); (try simp only [pz, pn, sz, sc, hW1]); refine re ?_
  refine r0 5 ?_; simp only [pz, pn, sz, sc, hW1]
  refine r0 6 ?_; simp only [pz, pn, sz, sc, hW1]
  refine rd_ ?_
  go_wp2_with fail
  refine wp_region_T 11  hst (by kernel_rfl) ?_; clear hst; intro w hst; (try simp only [List.length_cons, List.length_nil, Nat.reduceAdd, Array.replicate_succ, Array.replicate_zero, List.push_toArray, List.nil_append, List.cons_append])
  refine r0 0 ?_; simp only [pz, pn, sz, sc, hW2]
  refine r0 2 ?_; simp only [pz, pn, sz, sc, hW2]
  refine r0 4 ?_; simp only [pz, pn, sz, sc, hW2]
  refine r0 6 ?_; simp only [pz, pn, sz, sc, hW2]
  refine r0 8 ?_; simp only [pz, pn, sz, sc, hW2]
  refine rl 1 rfl ?_ (ylC tc4); simp only [pz, pn, sz, sc, hW2]
  refine rl 3 rfl ?_ (ylC tc3); simp only [pz, pn, sz, sc, hW2]
  refine r0 5 ?_; simp only [pz, pn, sz, sc, hW2]
  refine rl 7 rfl ?_ (by first | exact ylA ta44 | exact ylM ta44); simp only [pz, pn, sz, sc, hW2]
  refine r1 9 ?_; (refine kf gf48 hst (hshl) rfl rfl rfl rfl ?_; clear hst; intro w hst); (try simp only [pz, pn, sz, sc, hW2]); refine re ?_
  refine r0 10 ?_ (hy := yB (tb46_012 _ _ _)); simp only [pz, pn, sz, sc, hW2]
  refine r1 11 ?_; (refine kt hst ta46 rfl rfl ?_; clear hst; intro w hst); (try simp only [pz, pn, sz, sc, hW2]); refine re ?_
  refine r0 12 ?_; simp only [pz, pn, sz, sc, hW2]
  refine rd_ ?_
  all_goals
    go_wp2_with fail
    refine bp_ct rfl rfl (la hst ta46) (by rfl) ⟨?_, hst.keeps⟩
    rfl

end Go.Proofs.YtefpoconpeggpaaGreatDoor.Rd
