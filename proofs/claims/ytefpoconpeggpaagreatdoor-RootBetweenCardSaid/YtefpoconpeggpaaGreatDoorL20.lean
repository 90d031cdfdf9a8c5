/- Words as texts of signs 0 and 1 (plain). -/
import Derived.Test.YtefpoconpeggpaaGreatDoorL19
import Derived.Test.YtefpoconpeggpaaGreatDoorL11
import Derived.Test.YtefpoconpeggpaaGreatDoorL04
namespace Go.Proofs.YtefpoconpeggpaaGreatDoor.Rd
open Go Go.RowKit
set_option linter.unusedVariables false
set_option linter.unusedSimpArgs false
set_option maxRecDepth 100000

/-- A word made of a sign, a field, a fraction. -/
def mkW (f : Nat) (ng : Bool) (fld fr : Nat) : Nat := fr + fld * 2 ^ (fP f - 1) + (if ng then 2 ^ (fB f - 1) else 0)

set_option maxHeartbeats 4000000 in
theorem class_Make (f : Nat) (h1 : 1 ≤ f) (h4 : f ≤ 4) (ng : Bool) (fld fr : Nat) (hf : fld ≤ 2 * fE f + 1) (hfr : fr < 2 ^ (fP f - 1)) (w0 : World) (hF : FmtIn w0) :
    GivesAt Tryz.prog 123 #[.int .i64 f, .bool ng, .int .i64 fld, W fr] (.tuple #[Wd (mkW f ng fld fr), .bool true]) w0 := by
  have hst := St.start [] w0
  have hk := Lib.hid (fun w (k : Keeps [] w0 w) => hF.keep k (by simp))
  have hof := fun w h => format_Of f h1 h4 w h
  have hP := fP_in f
  have hE := fE_in f
  have hB := fB_in f
  have hpM : 2 ^ (fP f - 1) < M := small_M2 _ (by omega)
  have hfM : fr < M := Nat.lt_trans hfr hpM
  have hlen := wide_Len fr hfM
  have hbl : bl fr ≤ fP f - 1 := bl_le.2 hfr
  have hfB : fld < B := by rw [B_val]; omega
  have hwo := of_u64 fld hfB
  have h1' := Lib.hid (wc_1 fld hfB)
  have hx : fr + fld * 2 ^ (fP f - 1) < 2 ^ (fB f - 1) := by
    have e : 2 ^ (fB f - 1) = 2 ^ fK f * 2 ^ (fP f - 1) := by rw [← Nat.pow_add, fBPK]; congr 1; omega
    rw [e, ← fE_pow]
    have : (fld + 1) * 2 ^ (fP f - 1) ≤ (2 * fE f + 2) * 2 ^ (fP f - 1) := Nat.mul_le_mul_right _ (by omega)
    rw [Nat.add_mul, Nat.one_mul] at this
    omega
  have hbM : 2 ^ (fB f - 1) < M := small_M2 _ (by omega)
  have hshl := wide_Shl fld (fP f - 1 : Nat) (Nat.lt_trans hfB (small_M2 64 (by omega)))
  rw [clampN_nat _ (by omega), Nat.mod_eq_of_lt (show fld * 2 ^ (fP f - 1) < M by omega)] at hshl
  have hadd := wide_Add fr (fld * 2 ^ (fP f - 1)) hfM (by omega)
  rw [Nat.mod_eq_of_lt (show fr + fld * 2 ^ (fP f - 1) < M by omega)] at hadd
  have hpw := wide_Power ((fB f : Int) - 1)
  rw [show pow2 ((fB f : Int) - 1) = 2 ^ (fB f - 1) by unfold pow2; rw [if_pos (by omega)]; congr 1; omega] at hpw
  have h2 : 2 ^ (fB f - 1) + 2 ^ (fB f - 1) ≤ M2 := by
    have a : 2 ^ fB f ≤ 2 ^ 128 := Nat.pow_le_pow_right (by omega) hB.2
    have b : 2 ^ fB f = 2 ^ (fB f - 1) + 2 ^ (fB f - 1) := by
      obtain ⟨p, hp⟩ : ∃ p, fB f = p + 1 := ⟨fB f - 1, by omega⟩
      rw [hp, Nat.add_sub_cancel, Nat.pow_succ]; omega
    have c : M2 = 2 ^ 128 := by decide
    omega
  have h2M : M2 ≤ M := by rw [M_eq]; exact Nat.pow_le_pow_right B_pos (by omega)
  have hadd2 := wide_Add (fr + fld * 2 ^ (fP f - 1)) (2 ^ (fB f - 1)) (by omega) hbM
  rw [Nat.mod_eq_of_lt (show fr + fld * 2 ^ (fP f - 1) + 2 ^ (fB f - 1) < M by omega)] at hadd2
  have hlow1 := wide_Low (fr + fld * 2 ^ (fP f - 1))
  rw [Nat.mod_eq_of_lt (by omega)] at hlow1
  have hlow2 := wide_Low (fr + fld * 2 ^ (fP f - 1) + 2 ^ (fB f - 1))
  rw [Nat.mod_eq_of_lt (by omega)] at hlow2
  rw [show ((fP f - 1 : Nat) : Int) = (fP f : Int) - 1 by omega] at hshl
  have hW1 : IntKind.i64.wrap ((fP f : Int) - 1) = (fP f : Int) - 1 := by rw [IntKind.wrap_i64]; omega
  have hW2 : IntKind.i64.wrap ((fB f : Int) - 1) = (fB f : Int) - 1 := by rw [IntKind.wrap_i64]; omega
  have hW3 : IntKind.i64.wrap (2 * (fE f : Int)) = 2 * (fE f : Int) := by rw [IntKind.wrap_i64]; omega
  have hW4 : IntKind.i64.wrap (2 * (fE f : Int) + 1) = 2 * (fE f : Int) + 1 := by rw [IntKind.wrap_i64]; omega
  have hW5 : IntKind.u64.wrap (fld : Int) = (fld : Int) := by rw [u64_wrap, Nat.mod_eq_of_lt hfB]
  have Q1 : decide ((fld : Int) < 0) = false := decide_eq_false (by omega)
  have Q2 : decide (2 * (fE f : Int) + 1 < (fld : Int)) = false := decide_eq_false (by omega)
  have Q3 : decide ((fP f : Int) - 1 < (bl fr : Int)) = false := decide_eq_false (by omega)
  have z1 := fmC_size f
  have z2 := fmC_one f
  have g0 : (fmC f)[0]? = some (.int .i64 (fB f : Nat)) := rfl
  have g1 : (fmC f)[0 + 1]? = some (.int .i64 (fP f : Nat)) := rfl
  have g2 : (fmC f)[0 + 2]? = some (.int .i64 (fE f : Nat)) := rfl
  unfold mkW
  clear hF hf hfr hbl hfB hx hbM h2 h2M hpM hfM
  obtain ⟨x2, hx2⟩ : ∃ x2, fr + fld * 2 ^ (fP f - 1) + 2 ^ (fB f - 1) = x2 := ⟨_, rfl⟩
  rw [hx2] at hadd2 hlow2
  generalize fr + fld * 2 ^ (fP f - 1) = x1 at *
  generalize fld * 2 ^ (fP f - 1) = x0 at *
  generalize 2 ^ (fB f - 1) = pb' at *
  generalize bl fr = k at *
  generalize fmC f = cs at *
  generalize fP f = p at *
  generalize fE f = E at *
  generalize fB f = bb at *
  cases ng
  · rw [if_neg (by simp), Nat.add_zero]
    clear hx2
    go_enter Tryz.func123, Tryz.ntmps123
    go_wp2_with ((first | (refine kg gf70 hst (fun w hst => hof w (hk.out w hst.keeps)) rfl rfl rfl rfl ?_; clear hst; intro w hst) | (refine kb 7 hst rfl rfl ?_; clear hst; intro b7 w hb7 hst) | (refine ka 8 hst tz24 rfl rfl ?_; clear hst; intro b8 w hb8 hst) | (refine ka 10 hst tz128 rfl rfl ?_; clear hst; intro b10 w hb10 hst) | (refine kt hst ta128 rfl rfl ?_; clear hst; intro w hst)); try simp only [pz, pn, sz, sc])
    refine wp_region_T 22  hst (by kernel_rfl) ?_; clear hst; intro w hst; (try simp only [List.length_cons, List.length_nil, Nat.reduceAdd, Array.replicate_succ, Array.replicate_zero, List.push_toArray, List.nil_append, List.cons_append])
    refine r0 0 ?_; simp only [pz, pn, sz, sc, hW1, hW3, hW4, Q1, Q2, Q3]
    refine r0 1 ?_; simp only [pz, pn, sz, sc, hW1, hW3, hW4, Q1, Q2, Q3]
    refine r0 2 ?_; simp only [pz, pn, sz, sc, hW1, hW3, hW4, Q1, Q2, Q3]
    refine r0 3 ?_; simp only [pz, pn, sz, sc, hW1, hW3, hW4, Q1, Q2, Q3]
    refine r0 4 ?_; simp only [pz, pn, sz, sc, hW1, hW3, hW4, Q1, Q2, Q3]
    refine r0 5 ?_; simp only [pz, pn, sz, sc, hW1, hW3, hW4, Q1, Q2, Q3]
    refine r0 6 ?_; simp only [pz, pn, sz, sc, hW1, hW3, hW4, Q1, Q2, Q3]
    refine r0 7 ?_; simp only [pz, pn, sz, sc, hW1, hW3, hW4, Q1, Q2, Q3]
    refine r0 8 ?_; simp only [pz, pn, sz, sc, hW1, hW3, hW4, Q1, Q2, Q3]
    refine rl 9 rfl ?_ (ylC tc3); simp only [pz, pn, sz, sc, hW1, hW3, hW4, Q1, Q2, Q3]
    refine r0 10 ?_; simp only [pz, pn, sz, sc, hW1, hW3, hW4, Q1, Q2, Q3]
    refine r0 11 ?_; simp only [pz, pn, sz, sc, hW1, hW3, hW4, Q1, Q2, Q3]
    refine r0 12 ?_; simp only [pz, pn, sz, sc, hW1, hW3, hW4, Q1, Q2, Q3]
    refine r0 13 ?_; simp only [pz, pn, sz, sc, hW1, hW3, hW4, Q1, Q2, Q3]
    refine r0 14 ?_; simp only [pz, pn, sz, sc, hW1, hW3, hW4, Q1, Q2, Q3]
    refine r0 17 ?_; simp only [pz, pn, sz, sc, hW1, hW3, hW4, Q1, Q2, Q3]
    refine rl 15 rfl ?_ (by first | exact ylA ta44 | exact ylM ta44); simp only [pz, pn, sz, sc, hW1, hW3, hW4, Q1, Q2, Q3]
    refine rl 18 rfl ?_ (ylC tc3); simp only [pz, pn, sz, sc, hW1, hW3, hW4, Q1, Q2, Q3]
    refine r0 19 ?_; simp only [pz, pn, sz, sc, hW1, hW3, hW4, Q1, Q2, Q3]
    refine r1 16 ?_; (try refine wl_guard (by rfl) ?_); (refine kf gf47 hst (hlen) rfl rfl rfl rfl ?_; clear hst; intro w hst); (try simp only [pz, pn, sz, sc, hW1, hW3, hW4, Q1, Q2, Q3]); refine re ?_
    refine r0 20 ?_; simp only [pz, pn, sz, sc, hW1, hW3, hW4, Q1, Q2, Q3]
    refine r0 21 ?_; simp only [pz, pn, sz, sc, hW1, hW3, hW4, Q1, Q2, Q3]
    refine rd_ ?_
    go_wp2_with fail
    refine wp_region_T 14  hst (by kernel_rfl) ?_; clear hst; intro w hst; (try simp only [List.length_cons, List.length_nil, Nat.reduceAdd, Array.replicate_succ, Array.replicate_zero, List.push_toArray, List.nil_append, List.cons_append])
    refine r0 1 ?_; simp only [pz, pn, sz, sc, hW1, hW5]
    refine r0 2 ?_; simp only [pz, pn, sz, sc, hW1, hW5]
    refine r0 5 ?_; simp only [pz, pn, sz, sc, hW1, hW5]
    refine rl 0 rfl ?_ (by first | exact ylA ta44 | exact ylM ta44); simp only [pz, pn, sz, sc, hW1, hW5]
    refine rl 6 rfl ?_ (ylC tc3); simp only [pz, pn, sz, sc, hW1, hW5]
    refine r0 7 ?_; simp only [pz, pn, sz, sc, hW1, hW5]
    refine r2 3 13 ?_ ?_
    (refine wl_slice1 (o := ⟨some 46, _, _, _, _, _⟩) hst ts123 te22 rfl rfl (by (simp only [eval_lit, eval_k, eval_f, eval_g, List.getD_cons_succ, List.getD_cons_zero]) <;> rfl) (by rfl) ?_; clear hst; intro b46 w hb46 hst); (try simp only [pz, pn, sz, sc, hW1, hW5]); refine re ?_
    refine r2 4 13 ?_ ?_
    (refine kg gf131 hst (fun w hst => hwo _ w (by rw [← h1'.out]; exact hst.own _ _ (by repeat (first | exact List.Mem.head _ | refine List.Mem.tail _ ?_)))) rfl rfl rfl rfl ?_; clear hst; intro w hst); (try simp only [pz, pn, sz, sc, hW1, hW5]); refine re ?_
    refine r2 8 13 ?_ ?_
    (refine kf gf48 hst (hshl) rfl rfl rfl rfl ?_; clear hst; intro w hst); (try simp only [pz, pn, sz, sc, hW1, hW5]); refine re ?_
    refine r2 9 13 ?_ ?_
    (refine kf gf104 hst (hadd) rfl rfl rfl rfl ?_; clear hst; intro w hst); (try simp only [pz, pn, sz, sc, hW1, hW5]); refine re ?_
    refine r0 10 ?_; simp only [pz, pn, sz, sc, hW1, hW5]
    refine r0 11 ?_; simp only [pz, pn, sz, sc, hW1, hW5]
    refine r0 12 ?_; simp only [pz, pn, sz, sc, hW1, hW5]
    refine r1 13 ?_; (refine ka 12 hst tz44 rfl rfl ?_; clear hst; intro b12 w hb12 hst); (try simp only [pz, pn, sz, sc, hW1, hW5]); refine re ?_
    refine r1 14 ?_; (refine kt hst ta44 rfl rfl ?_; clear hst; intro w hst); (try simp only [pz, pn, sz, sc, hW1, hW5]); refine re ?_
    refine r0 15 ?_; simp only [pz, pn, sz, sc, hW1, hW5]
    refine rd_ ?_
    rotate_left 1
    (refine ka 12 hst tz44 rfl rfl ?_; clear hst; intro b12 w hb12 hst); (try simp only [pz, pn, sz, sc, hW1, hW5]); refine re ?_
    refine r1 9 ?_; (refine kf gf104 hst (hadd) rfl rfl rfl rfl ?_; clear hst; intro w hst); (try simp only [pz, pn, sz, sc, hW1, hW5]); refine re ?_
    refine r0 10 ?_; simp only [pz, pn, sz, sc, hW1, hW5]
    refine r0 11 ?_; simp only [pz, pn, sz, sc, hW1, hW5]
    refine r0 12 ?_; simp only [pz, pn, sz, sc, hW1, hW5]
    refine r1 14 ?_; (refine kt hst ta44 rfl rfl ?_; clear hst; intro w hst); (try simp only [pz, pn, sz, sc, hW1, hW5]); refine re ?_
    refine r0 15 ?_; simp only [pz, pn, sz, sc, hW1, hW5]
    refine rd_ ?_
    rotate_right 1
    rotate_left 2
    (refine ka 12 hst tz44 rfl rfl ?_; clear hst; intro b12 w hb12 hst); (try simp only [pz, pn, sz, sc, hW1, hW5]); refine re ?_
    refine r1 8 ?_; (refine kf gf48 hst (hshl) rfl rfl rfl rfl ?_; clear hst; intro w hst); (try simp only [pz, pn, sz, sc, hW1, hW5]); refine re ?_
    refine r1 9 ?_; (refine kf gf104 hst (hadd) rfl rfl rfl rfl ?_; clear hst; intro w hst); (try simp only [pz, pn, sz, sc, hW1, hW5]); refine re ?_
    refine r0 10 ?_; simp only [pz, pn, sz, sc, hW1, hW5]
    refine r0 11 ?_; simp only [pz, pn, sz, sc, hW1, hW5]
    refine r0 12 ?_; simp only [pz, pn, sz, sc, hW1, hW5]
    refine r1 14 ?_; (refine kt hst ta44 rfl rfl ?_; clear hst; intro w hst); (try simp only [pz, pn, sz, sc, hW1, hW5]); refine re ?_
    refine r0 15 ?_; simp only [pz, pn, sz, sc, hW1, hW5]
    refine rd_ ?_
    rotate_right 2
    rotate_left 3
    (refine ka 12 hst tz44 rfl rfl ?_; clear hst; intro b12 w hb12 hst); (try simp only [pz, pn, sz, sc, hW1, hW5]); refine re ?_
    refine r1 4 ?_; (refine kg gf131 hst (fun w hst => hwo _ w (by rw [← h1'.out]; exact hst.own _ _ (by repeat (first | exact List.Mem.head _ | refine List.Mem.tail _ ?_)))) rfl rfl rfl rfl ?_; clear hst; intro w hst); (try simp only [pz, pn, sz, sc, hW1, hW5]); refine re ?_
    refine r1 8 ?_; (refine kf gf48 hst (hshl) rfl rfl rfl rfl ?_; clear hst; intro w hst); (try simp only [pz, pn, sz, sc, hW1, hW5]); refine re ?_
    refine r1 9 ?_; (refine kf gf104 hst (hadd) rfl rfl rfl rfl ?_; clear hst; intro w hst); (try simp only [pz, pn, sz, sc, hW1, hW5]); refine re ?_
    refine r0 10 ?_; simp only [pz, pn, sz, sc, hW1, hW5]
    refine r0 11 ?_; simp only [pz, pn, sz, sc, hW1, hW5]
    refine r0 12 ?_; simp only [pz, pn, sz, sc, hW1, hW5]
    refine r1 14 ?_; (refine kt hst ta44 rfl rfl ?_; clear hst; intro w hst); (try simp only [pz, pn, sz, sc, hW1, hW5]); refine re ?_
    refine r0 15 ?_; simp only [pz, pn, sz, sc, hW1, hW5]
    refine rd_ ?_
    rotate_right 3
    rotate_left 4
    (refine ka 12 hst tz44 rfl rfl ?_; clear hst; intro b12 w hb12 hst); (try simp only [pz, pn, sz, sc, hW1, hW5]); refine re ?_
    refine r1 3 ?_; (refine wl_slice1 (o := ⟨some 46, _, _, _, _, _⟩) hst ts123 te22 rfl rfl (by (simp only [eval_lit, eval_k, eval_f, eval_g, List.getD_cons_succ, List.getD_cons_zero]) <;> rfl) (by rfl) ?_; clear hst; intro b46 w hb46 hst); (try simp only [pz, pn, sz, sc, hW1, hW5]); refine re ?_
    refine r1 4 ?_; (refine kg gf131 hst (fun w hst => hwo _ w (by rw [← h1'.out]; exact hst.own _ _ (by repeat (first | exact List.Mem.head _ | refine List.Mem.tail _ ?_)))) rfl rfl rfl rfl ?_; clear hst; intro w hst); (try simp only [pz, pn, sz, sc, hW1, hW5]); refine re ?_
    refine r1 8 ?_; (refine kf gf48 hst (hshl) rfl rfl rfl rfl ?_; clear hst; intro w hst); (try simp only [pz, pn, sz, sc, hW1, hW5]); refine re ?_
    refine r1 9 ?_; (refine kf gf104 hst (hadd) rfl rfl rfl rfl ?_; clear hst; intro w hst); (try simp only [pz, pn, sz, sc, hW1, hW5]); refine re ?_
    refine r0 10 ?_; simp only [pz, pn, sz, sc, hW1, hW5]
    refine r0 11 ?_; simp only [pz, pn, sz, sc, hW1, hW5]
    refine r0 12 ?_; simp only [pz, pn, sz, sc, hW1, hW5]
    refine r1 14 ?_; (refine kt hst ta44 rfl rfl ?_; clear hst; intro w hst); (try simp only [pz, pn, sz, sc, hW1, hW5]); refine re ?_
    refine r0 15 ?_; simp only [pz, pn, sz, sc, hW1, hW5]
    refine rd_ ?_
    rotate_right 4
    all_goals
      go_wp2_with ((first | (refine kf gf139 hst (hlow1) rfl rfl rfl rfl ?_; clear hst; intro w hst) | (refine kl hst ta44 rfl ?_) | (refine kt hst ta24 rfl rfl ?_; clear hst; intro w hst)); try simp only [pz, pn, sz, sc])
      refine bp_ct rfl rfl (la hst ta24) (by rfl) ⟨?_, hst.keeps⟩
      rfl
  · rw [if_pos rfl, hx2]
    clear hx2
    go_enter Tryz.func123, Tryz.ntmps123
    go_wp2_with ((first | (refine kg gf70 hst (fun w hst => hof w (hk.out w hst.keeps)) rfl rfl rfl rfl ?_; clear hst; intro w hst) | (refine kb 7 hst rfl rfl ?_; clear hst; intro b7 w hb7 hst) | (refine ka 8 hst tz24 rfl rfl ?_; clear hst; intro b8 w hb8 hst) | (refine ka 10 hst tz128 rfl rfl ?_; clear hst; intro b10 w hb10 hst) | (refine kt hst ta128 rfl rfl ?_; clear hst; intro w hst)); try simp only [pz, pn, sz, sc])
    refine wp_region_T 22  hst (by kernel_rfl) ?_; clear hst; intro w hst; (try simp only [List.length_cons, List.length_nil, Nat.reduceAdd, Array.replicate_succ, Array.replicate_zero, List.push_toArray, List.nil_append, List.cons_append])
    refine r0 0 ?_; simp only [pz, pn, sz, sc, hW1, hW3, hW4, Q1, Q2, Q3]
    refine r0 1 ?_; simp only [pz, pn, sz, sc, hW1, hW3, hW4, Q1, Q2, Q3]
    refine r0 2 ?_; simp only [pz, pn, sz, sc, hW1, hW3, hW4, Q1, Q2, Q3]
    refine r0 3 ?_; simp only [pz, pn, sz, sc, hW1, hW3, hW4, Q1, Q2, Q3]
    refine r0 4 ?_; simp only [pz, pn, sz, sc, hW1, hW3, hW4, Q1, Q2, Q3]
    refine r0 5 ?_; simp only [pz, pn, sz, sc, hW1, hW3, hW4, Q1, Q2, Q3]
    refine r0 6 ?_; simp only [pz, pn, sz, sc, hW1, hW3, hW4, Q1, Q2, Q3]
    refine r0 7 ?_; simp only [pz, pn, sz, sc, hW1, hW3, hW4, Q1, Q2, Q3]
    refine r0 8 ?_; simp only [pz, pn, sz, sc, hW1, hW3, hW4, Q1, Q2, Q3]
    refine rl 9 rfl ?_ (ylC tc3); simp only [pz, pn, sz, sc, hW1, hW3, hW4, Q1, Q2, Q3]
    refine r0 10 ?_; simp only [pz, pn, sz, sc, hW1, hW3, hW4, Q1, Q2, Q3]
    refine r0 11 ?_; simp only [pz, pn, sz, sc, hW1, hW3, hW4, Q1, Q2, Q3]
    refine r0 12 ?_; simp only [pz, pn, sz, sc, hW1, hW3, hW4, Q1, Q2, Q3]
    refine r0 13 ?_; simp only [pz, pn, sz, sc, hW1, hW3, hW4, Q1, Q2, Q3]
    refine r0 14 ?_; simp only [pz, pn, sz, sc, hW1, hW3, hW4, Q1, Q2, Q3]
    refine r0 17 ?_; simp only [pz, pn, sz, sc, hW1, hW3, hW4, Q1, Q2, Q3]
    refine rl 15 rfl ?_ (by first | exact ylA ta44 | exact ylM ta44); simp only [pz, pn, sz, sc, hW1, hW3, hW4, Q1, Q2, Q3]
    refine rl 18 rfl ?_ (ylC tc3); simp only [pz, pn, sz, sc, hW1, hW3, hW4, Q1, Q2, Q3]
    refine r0 19 ?_; simp only [pz, pn, sz, sc, hW1, hW3, hW4, Q1, Q2, Q3]
    refine r1 16 ?_; (try refine wl_guard (by rfl) ?_); (refine kf gf47 hst (hlen) rfl rfl rfl rfl ?_; clear hst; intro w hst); (try simp only [pz, pn, sz, sc, hW1, hW3, hW4, Q1, Q2, Q3]); refine re ?_
    refine r0 20 ?_; simp only [pz, pn, sz, sc, hW1, hW3, hW4, Q1, Q2, Q3]
    refine r0 21 ?_; simp only [pz, pn, sz, sc, hW1, hW3, hW4, Q1, Q2, Q3]
    refine rd_ ?_
    go_wp2_with fail
    refine wp_region_T 14  hst (by kernel_rfl) ?_; clear hst; intro w hst; (try simp only [List.length_cons, List.length_nil, Nat.reduceAdd, Array.replicate_succ, Array.replicate_zero, List.push_toArray, List.nil_append, List.cons_append])
    refine r0 1 ?_; simp only [pz, pn, sz, sc, hW1, hW5]
    refine r0 2 ?_; simp only [pz, pn, sz, sc, hW1, hW5]
    refine r0 5 ?_; simp only [pz, pn, sz, sc, hW1, hW5]
    refine rl 0 rfl ?_ (by first | exact ylA ta44 | exact ylM ta44); simp only [pz, pn, sz, sc, hW1, hW5]
    refine rl 6 rfl ?_ (ylC tc3); simp only [pz, pn, sz, sc, hW1, hW5]
    refine r0 7 ?_; simp only [pz, pn, sz, sc, hW1, hW5]
    refine r2 3 13 ?_ ?_
    (refine wl_slice1 (o := ⟨some 46, _, _, _, _, _⟩) hst ts123 te22 rfl rfl (by (simp only [eval_lit, eval_k, eval_f, eval_g, List.getD_cons_succ, List.getD_cons_zero]) <;> rfl) (by rfl) ?_; clear hst; intro b46 w hb46 hst); (try simp only [pz, pn, sz, sc, hW1, hW5]); refine re ?_
    refine r2 4 13 ?_ ?_
    (refine kg gf131 hst (fun w hst => hwo _ w (by rw [← h1'.out]; exact hst.own _ _ (by repeat (first | exact List.Mem.head _ | refine List.Mem.tail _ ?_)))) rfl rfl rfl rfl ?_; clear hst; intro w hst); (try simp only [pz, pn, sz, sc, hW1, hW5]); refine re ?_
    refine r2 8 13 ?_ ?_
    (refine kf gf48 hst (hshl) rfl rfl rfl rfl ?_; clear hst; intro w hst); (try simp only [pz, pn, sz, sc, hW1, hW5]); refine re ?_
    refine r2 9 13 ?_ ?_
    (refine kf gf104 hst (hadd) rfl rfl rfl rfl ?_; clear hst; intro w hst); (try simp only [pz, pn, sz, sc, hW1, hW5]); refine re ?_
    refine r0 10 ?_; simp only [pz, pn, sz, sc, hW1, hW5]
    refine r0 11 ?_; simp only [pz, pn, sz, sc, hW1, hW5]
    refine r0 12 ?_; simp only [pz, pn, sz, sc, hW1, hW5]
    refine r1 13 ?_; (refine ka 12 hst tz44 rfl rfl ?_; clear hst; intro b12 w hb12 hst); (try simp only [pz, pn, sz, sc, hW1, hW5]); refine re ?_
    refine r1 14 ?_; (refine kt hst ta44 rfl rfl ?_; clear hst; intro w hst); (try simp only [pz, pn, sz, sc, hW1, hW5]); refine re ?_
    refine r0 15 ?_; simp only [pz, pn, sz, sc, hW1, hW5]
    refine rd_ ?_
    rotate_left 1
    (refine ka 12 hst tz44 rfl rfl ?_; clear hst; intro b12 w hb12 hst); (try simp only [pz, pn, sz, sc, hW1, hW5]); refine re ?_
    refine r1 9 ?_; (refine kf gf104 hst (hadd) rfl rfl rfl rfl ?_; clear hst; intro w hst); (try simp only [pz, pn, sz, sc, hW1, hW5]); refine re ?_
    refine r0 10 ?_; simp only [pz, pn, sz, sc, hW1, hW5]
    refine r0 11 ?_; simp only [pz, pn, sz, sc, hW1, hW5]
    refine r0 12 ?_; simp only [pz, pn, sz, sc, hW1, hW5]
    refine r1 14 ?_; (refine kt hst ta44 rfl rfl ?_; clear hst; intro w hst); (try simp only [pz, pn, sz, sc, hW1, hW5]); refine re ?_
    refine r0 15 ?_; simp only [pz, pn, sz, sc, hW1, hW5]
    refine rd_ ?_
    rotate_right 1
    rotate_left 2
    (refine ka 12 hst tz44 rfl rfl ?_; clear hst; intro b12 w hb12 hst); (try simp only [pz, pn, sz, sc, hW1, hW5]); refine re ?_
    refine r1 8 ?_; (refine kf gf48 hst (hshl) rfl rfl rfl rfl ?_; clear hst; intro w hst); (try simp only [pz, pn, sz, sc, hW1, hW5]); refine re ?_
    refine r1 9 ?_; (refine kf gf104 hst (hadd) rfl rfl rfl rfl ?_; clear hst; intro w hst); (try simp only [pz, pn, sz, sc, hW1, hW5]); refine re ?_
    refine r0 10 ?_; simp only [pz, pn, sz, sc, hW1, hW5]
    refine r0 11 ?_; simp only [pz, pn, sz, sc, hW1, hW5]
    refine r0 12 ?_; simp only [pz, pn, sz, sc, hW1, hW5]
    refine r1 14 ?_; (refine kt hst ta44 rfl rfl ?_; clear hst; intro w hst); (try simp only [pz, pn, sz, sc, hW1, hW5]); refine re ?_
    refine r0 15 ?_; simp only [pz, pn, sz, sc, hW1, hW5]
    refine rd_ ?_
    rotate_right 2
    rotate_left 3
    (refine ka 12 hst tz44 rfl rfl ?_; clear hst; intro b12 w hb12 hst); (try simp only [pz, pn, sz, sc, hW1, hW5]); refine re ?_
    refine r1 4 ?_; (refine kg gf131 hst (fun w hst => hwo _ w (by rw [← h1'.out]; exact hst.own _ _ (by repeat (first | exact List.Mem.head _ | refine List.Mem.tail _ ?_)))) rfl rfl rfl rfl ?_; clear hst; intro w hst); (try simp only [pz, pn, sz, sc, hW1, hW5]); refine re ?_
    refine r1 8 ?_; (refine kf gf48 hst (hshl) rfl rfl rfl rfl ?_; clear hst; intro w hst); (try simp only [pz, pn, sz, sc, hW1, hW5]); refine re ?_
    refine r1 9 ?_; (refine kf gf104 hst (hadd) rfl rfl rfl rfl ?_; clear hst; intro w hst); (try simp only [pz, pn, sz, sc, hW1, hW5]); refine re ?_
    refine r0 10 ?_; simp only [pz, pn, sz, sc, hW1, hW5]
    refine r0 11 ?_; simp only [pz, pn, sz, sc, hW1, hW5]
    refine r0 12 ?_; simp only [pz, pn, sz, sc, hW1, hW5]
    refine r1 14 ?_; (refine kt hst ta44 rfl rfl ?_; clear hst; intro w hst); (try simp only [pz, pn, sz, sc, hW1, hW5]); refine re ?_
    refine r0 15 ?_; simp only [pz, pn, sz, sc, hW1, hW5]
    refine rd_ ?_
    rotate_right 3
    rotate_left 4
    (refine ka 12 hst tz44 rfl rfl ?_; clear hst; intro b12 w hb12 hst); (try simp only [pz, pn, sz, sc, hW1, hW5]); refine re ?_
    refine r1 3 ?_; (refine wl_slice1 (o := ⟨some 46, _, _, _, _, _⟩) hst ts123 te22 rfl rfl (by (simp only [eval_lit, eval_k, eval_f, eval_g, List.getD_cons_succ, List.getD_cons_zero]) <;> rfl) (by rfl) ?_; clear hst; intro b46 w hb46 hst); (try simp only [pz, pn, sz, sc, hW1, hW5]); refine re ?_
    refine r1 4 ?_; (refine kg gf131 hst (fun w hst => hwo _ w (by rw [← h1'.out]; exact hst.own _ _ (by repeat (first | exact List.Mem.head _ | refine List.Mem.tail _ ?_)))) rfl rfl rfl rfl ?_; clear hst; intro w hst); (try simp only [pz, pn, sz, sc, hW1, hW5]); refine re ?_
    refine r1 8 ?_; (refine kf gf48 hst (hshl) rfl rfl rfl rfl ?_; clear hst; intro w hst); (try simp only [pz, pn, sz, sc, hW1, hW5]); refine re ?_
    refine r1 9 ?_; (refine kf gf104 hst (hadd) rfl rfl rfl rfl ?_; clear hst; intro w hst); (try simp only [pz, pn, sz, sc, hW1, hW5]); refine re ?_
    refine r0 10 ?_; simp only [pz, pn, sz, sc, hW1, hW5]
    refine r0 11 ?_; simp only [pz, pn, sz, sc, hW1, hW5]
    refine r0 12 ?_; simp only [pz, pn, sz, sc, hW1, hW5]
    refine r1 14 ?_; (refine kt hst ta44 rfl rfl ?_; clear hst; intro w hst); (try simp only [pz, pn, sz, sc, hW1, hW5]); refine re ?_
    refine r0 15 ?_; simp only [pz, pn, sz, sc, hW1, hW5]
    refine rd_ ?_
    rotate_right 4
    all_goals
      go_wp2_with fail
      refine wp_region_T 9  hst (by kernel_rfl) ?_; clear hst; intro w hst; (try simp only [List.length_cons, List.length_nil, Nat.reduceAdd, Array.replicate_succ, Array.replicate_zero, List.push_toArray, List.nil_append, List.cons_append])
      refine r0 1 ?_; simp only [pz, pn, sz, sc, hW2]
      refine rl 0 rfl ?_ (by first | exact ylA ta44 | exact ylM ta44); simp only [pz, pn, sz, sc, hW2]
      refine rl 2 rfl ?_ (ylC tc3); simp only [pz, pn, sz, sc, hW2]
      refine r0 3 ?_; simp only [pz, pn, sz, sc, hW2]
      refine r1 4 ?_; (refine kf gf127 hst (hpw) rfl rfl rfl rfl ?_; clear hst; intro w hst); (try simp only [pz, pn, sz, sc, hW2]); refine re ?_
      refine r1 5 ?_; (refine kf gf104 hst (hadd2) rfl rfl rfl rfl ?_; clear hst; intro w hst); (try simp only [pz, pn, sz, sc, hW2]); refine re ?_
      refine r0 6 ?_; simp only [pz, pn, sz, sc, hW2]
      refine r0 7 ?_; simp only [pz, pn, sz, sc, hW2]
      refine r0 8 ?_; simp only [pz, pn, sz, sc, hW2]
      refine r1 9 ?_; (refine kt hst ta44 rfl rfl ?_; clear hst; intro w hst); (try simp only [pz, pn, sz, sc, hW2]); refine re ?_
      refine rd_ ?_
      all_goals
        go_wp2_with ((first | (refine kf gf139 hst (hlow2) rfl rfl rfl rfl ?_; clear hst; intro w hst) | (refine kl hst ta44 rfl ?_) | (refine kt hst ta24 rfl rfl ?_; clear hst; intro w hst)); try simp only [pz, pn, sz, sc])
        refine bp_ct rfl rfl (la hst ta24) (by rfl) ⟨?_, hst.keeps⟩
        rfl

theorem mkW_enc (f : Nat) (ng : Bool) (j s : Nat) : mkW f ng (j + s / 2 ^ (fP f - 1)) (s % 2 ^ (fP f - 1)) = encW f ng j s := by
  unfold mkW encW wEnc
  have := Nat.div_add_mod s (2 ^ (fP f - 1))
  rw [Nat.mul_comm] at this
  rw [Nat.add_mul]
  omega

set_option maxHeartbeats 4000000 in
theorem pack_joined (f : Nat) (h1 : 1 ≤ f) (h4 : f ≤ 4) (ng : Bool) (j s : Nat) (hs : s ≤ 2 ^ fP f) (hj : j + s / 2 ^ (fP f - 1) ≤ 2 * fE f + 1) (w0 : World) (hF : FmtIn w0) :
    GivesAt Tryz.prog 98 #[.int .i64 f, .bool ng, .int .i64 j, W s] (Wd (encW f ng j s)) w0 := by
  have hst := St.start [] w0
  have hk := Lib.hid (fun w (k : Keeps [] w0 w) => hF.keep k (by simp))
  have hof := fun w h => format_Of f h1 h4 w h
  have hP := fP_in f
  have hE := fE_in f
  have hsM : s < M := Nat.lt_of_le_of_lt hs (small_M2 _ (by omega))
  have hmk := fun w h => class_Make f h1 h4 ng (j + s / 2 ^ (fP f - 1)) (s % 2 ^ (fP f - 1)) hj (Nat.mod_lt _ (Nat.pow_pos (by omega))) w h
  rw [mkW_enc] at hmk
  have hle : s / 2 ^ (fP f - 1) * 2 ^ (fP f - 1) ≤ s := Nat.div_mul_le_self _ _
  have hshr := wide_Shr s (fP f - 1 : Nat) hsM
  rw [clampN_nat _ (by omega)] at hshr
  have hshl := wide_Shl (s / 2 ^ (fP f - 1)) (fP f - 1 : Nat) (Nat.lt_of_le_of_lt (Nat.div_le_self _ _) hsM)
  rw [clampN_nat _ (by omega), Nat.mod_eq_of_lt (Nat.lt_of_le_of_lt hle hsM)] at hshl
  have hsub := wide_Sub s (s / 2 ^ (fP f - 1) * 2 ^ (fP f - 1)) hsM (Nat.lt_of_le_of_lt hle hsM)
  have hlow : (s + M - s / 2 ^ (fP f - 1) * 2 ^ (fP f - 1)) % M = s % 2 ^ (fP f - 1) := by
    have hd := Nat.div_add_mod s (2 ^ (fP f - 1))
    rw [Nat.mul_comm] at hd
    rw [show s + M - s / 2 ^ (fP f - 1) * 2 ^ (fP f - 1) = s % 2 ^ (fP f - 1) + M by omega, Nat.add_mod_right, Nat.mod_eq_of_lt (Nat.lt_of_le_of_lt (Nat.mod_le _ _) hsM)]
  rw [hlow] at hsub
  rw [show ((fP f - 1 : Nat) : Int) = (fP f : Int) - 1 by omega] at hshr hshl
  have hcl : s / 2 ^ (fP f - 1) < 65536 := by omega
  have hlb : lb (s / 2 ^ (fP f - 1)) 0 = s / 2 ^ (fP f - 1) := by rw [lb_zero, Nat.mod_eq_of_lt (by rw [B_val]; omega)]
  have hjl : j < 65536 := by omega
  rw [Int.natCast_add] at hmk
  have hW1 : IntKind.i64.wrap ((fP f : Int) - 1) = (fP f : Int) - 1 := by rw [IntKind.wrap_i64]; omega
  have z1 := fmC_size f
  have z2 := fmC_one f
  have g1 : (fmC f)[0 + 1]? = some (.int .i64 (fP f : Nat)) := rfl
  clear hF hs hj hle hlow hsM
  generalize s / 2 ^ (fP f - 1) * 2 ^ (fP f - 1) = s2 at *
  generalize s / 2 ^ (fP f - 1) = c at *
  generalize s % 2 ^ (fP f - 1) = fr at *
  generalize encW f ng j s = res at *
  generalize fmC f = cs at *
  generalize fP f = p at *
  go_enter Tryz.func98, Tryz.ntmps98
  go_wp2_with ((first | (refine kg gf70 hst (fun w hst => hof w (hk.out w hst.keeps)) rfl rfl rfl rfl ?_; clear hst; intro w hst) | (refine kf gf87 hst (hshr) rfl rfl rfl rfl ?_; clear hst; intro w hst) | (refine kb 7 hst rfl rfl ?_; clear hst; intro b7 w hb7 hst) | (refine ka 8 hst tz24 rfl rfl ?_; clear hst; intro b8 w hb8 hst) | (refine ka 9 hst tz128 rfl rfl ?_; clear hst; intro b9 w hb9 hst) | (refine kt hst ta128 rfl rfl ?_; clear hst; intro w hst) | (refine kl hst ta44 rfl ?_) | (refine kc hst tc3 rfl ?_) | (refine ka 11 hst tz44 rfl rfl ?_; clear hst; intro b11 w hb11 hst) | (refine kt hst ta44 rfl rfl ?_; clear hst; intro w hst)); try simp only [pz, pn, sz, sc])
  refine wp_region_T 11  hst (by kernel_rfl) ?_; clear hst; intro w hst; (try simp only [List.length_cons, List.length_nil, Nat.reduceAdd, Array.replicate_succ, Array.replicate_zero, List.push_toArray, List.nil_append, List.cons_append])
  refine r0 2 ?_; simp only [pz, pn, sz, sc, hW1]
  refine rl 0 rfl ?_ (by first | exact ylA ta44 | exact ylM ta44); simp only [pz, pn, sz, sc, hW1]
  refine rl 1 rfl ?_ (by first | exact ylA ta44 | exact ylM ta44); simp only [pz, pn, sz, sc, hW1]
  refine rl 3 rfl ?_ (ylC tc3); simp only [pz, pn, sz, sc, hW1]
  refine r0 4 ?_; simp only [pz, pn, sz, sc, hW1]
  refine r2 5 10 ?_ ?_
  (refine kf gf48 hst (hshl) rfl rfl rfl rfl ?_; clear hst; intro w hst); (try simp only [pz, pn, sz, sc, hW1]); refine re ?_
  refine r2 6 10 ?_ ?_
  (refine kf gf122 hst (hsub) rfl rfl rfl rfl ?_; clear hst; intro w hst); (try simp only [pz, pn, sz, sc, hW1]); refine re ?_
  refine r0 7 ?_; simp only [pz, pn, sz, sc, hW1]
  refine r0 8 ?_; simp only [pz, pn, sz, sc, hW1]
  refine r0 9 ?_; simp only [pz, pn, sz, sc, hW1]
  refine r1 10 ?_; (refine ka 13 hst tz44 rfl rfl ?_; clear hst; intro b13 w hb13 hst); (try simp only [pz, pn, sz, sc, hW1]); refine re ?_
  refine r1 11 ?_; (refine kt hst ta44 rfl rfl ?_; clear hst; intro w hst); (try simp only [pz, pn, sz, sc, hW1]); refine re ?_
  refine r0 12 ?_; simp only [pz, pn, sz, sc, hW1]
  refine rd_ ?_
  rotate_left 1
  (refine ka 13 hst tz44 rfl rfl ?_; clear hst; intro b13 w hb13 hst); (try simp only [pz, pn, sz, sc, hW1]); refine re ?_
  refine r1 6 ?_; (refine kf gf122 hst (hsub) rfl rfl rfl rfl ?_; clear hst; intro w hst); (try simp only [pz, pn, sz, sc, hW1]); refine re ?_
  refine r0 7 ?_; simp only [pz, pn, sz, sc, hW1]
  refine r0 8 ?_; simp only [pz, pn, sz, sc, hW1]
  refine r0 9 ?_; simp only [pz, pn, sz, sc, hW1]
  refine r1 11 ?_; (refine kt hst ta44 rfl rfl ?_; clear hst; intro w hst); (try simp only [pz, pn, sz, sc, hW1]); refine re ?_
  refine r0 12 ?_; simp only [pz, pn, sz, sc, hW1]
  refine rd_ ?_
  rotate_right 1
  rotate_left 2
  (refine ka 13 hst tz44 rfl rfl ?_; clear hst; intro b13 w hb13 hst); (try simp only [pz, pn, sz, sc, hW1]); refine re ?_
  refine r1 5 ?_; (refine kf gf48 hst (hshl) rfl rfl rfl rfl ?_; clear hst; intro w hst); (try simp only [pz, pn, sz, sc, hW1]); refine re ?_
  refine r1 6 ?_; (refine kf gf122 hst (hsub) rfl rfl rfl rfl ?_; clear hst; intro w hst); (try simp only [pz, pn, sz, sc, hW1]); refine re ?_
  refine r0 7 ?_; simp only [pz, pn, sz, sc, hW1]
  refine r0 8 ?_; simp only [pz, pn, sz, sc, hW1]
  refine r0 9 ?_; simp only [pz, pn, sz, sc, hW1]
  refine r1 11 ?_; (refine kt hst ta44 rfl rfl ?_; clear hst; intro w hst); (try simp only [pz, pn, sz, sc, hW1]); refine re ?_
  refine r0 12 ?_; simp only [pz, pn, sz, sc, hW1]
  refine rd_ ?_
  rotate_right 2
  all_goals
    go_wp2_with ((first | (refine kg gf123 hst (fun w hst => hmk w (hk.out w hst.keeps)) rfl rfl rfl rfl ?_; clear hst; intro w hst) | (refine kl hst ta44 rfl ?_) | (refine kc hst tc22 rfl ?_) | (refine ka 15 hst tz24 rfl rfl ?_; clear hst; intro b15 w hb15 hst) | (refine kt hst ta24 rfl rfl ?_; clear hst; intro w hst) | (refine kl hst ta24 rfl ?_)); try simp only [pz, pn, sz, sc])
    refine bp_c rfl rfl (la hst ta24) ⟨?_, hst.keeps⟩
    rfl

end Go.Proofs.YtefpoconpeggpaaGreatDoor.Rd

namespace Go.Proofs.YtefpoconpeggpaaGreatDoor.Rd
open Go Go.RowKit
set_option linter.unusedVariables false
set_option linter.unusedSimpArgs false
set_option maxRecDepth 100000

/-- Is a word one of a number above 0? -/
def someB (f m : Nat) : Bool := finB f m && decide (wSig f m ≠ 0) && !wNeg f m
theorem clsN_sig (f m : Nat) (hf : m < 2 ^ fB f) : (decide (clsN f m = 4) || decide (clsN f m = 5)) = (finB f m && decide (wSig f m ≠ 0)) := by
  have hp : 0 < 2 ^ (fP f - 1) := Nat.pow_pos (by omega)
  unfold finB
  rw [decide_eq_true hf, Bool.true_and]
  unfold clsN wSig
  by_cases h1 : wField f m = 2 * fE f + 1
  · rw [if_pos h1]
    split
    · simp
    · split <;> simp
  · rw [if_neg h1]
    by_cases h2 : wField f m = 0
    · rw [if_pos h2, if_pos h2]
      by_cases h3 : wFrac f m = 0
      · rw [if_pos h3, h3]; simp
      · rw [if_neg h3]; simp [h3]
    · rw [if_neg h2, if_neg h2]
      simp

theorem kfd {P : Program} {ops : Array Oper} {rest : List Oper} {Q : Exit → Act → World → Prop} {a : Act} {w : World} {o : Oper} {T : TypeId} {x : Operand} {i : Nat} {v v' : Value} (hr : ∀ w, (Instr.field T v i).run P w = .ok v' w) (ho : o.op = .field T x i) (h : wpList P ops Q rest (a.put o.dst v') w) (hx : a.eval x = v := by rfl) (hg : o.guard = none := by rfl) : wpList P ops Q (o :: rest) a w := by
  refine wpList_plain hg fun K hK => ?_
  unfold Oper.wp execOp
  simp only [ho, hx, Sem.run_bind, hr, Sem.run_pure, Result.andThen_ok]
  exact hK _ _ h
theorem nb_field0 (ng : Bool) (e : Int) (n : Nat) (w : World) : (Instr.field 46 (.agg (nbC ng e n)) 0).run Tryz.prog w = .ok (.bool ng) w := by kernel_rfl

theorem ref25_Some_no (f : Int) (m : Nat) (hs : Gives Tryz.prog 32 #[.int .i64 f, Wd m] (.bool false)) : Gives Tryz.prog 11 #[.int .i64 f, Wd m] (.bool false) := by
  intro w0
  have hst := St.start [] w0
  go_enter Tryz.func11, Tryz.ntmps11
  go_wp2_with ((first | (refine kf gf32 hst (hs) rfl rfl rfl rfl ?_; clear hst; intro w hst) | (refine kb 3 hst rfl rfl ?_; clear hst; intro b3 w hb3 hst) | (refine kl hst ta24 rfl ?_)); try simp only [pz, pn, sz, sc])
  refine bp_t rfl rfl (by rfl) ⟨?_, hst.keeps⟩
  rfl

theorem ref25_Some_is (f : Nat) (h1 : 1 ≤ f) (h4 : f ≤ 4) (m : Nat) (hm : m < M2) (hf : m < 2 ^ fB f) (hs : Gives Tryz.prog 32 #[.int .i64 f, Wd m] (.bool true)) : Gives Tryz.prog 11 #[.int .i64 f, Wd m] (.bool (!wNeg f m)) := by
  intro w0
  have hst := St.start [] w0
  have hv := ref07_Value f h1 h4 m hm hf
  have hfd := nb_field0 (wNeg f m) (wExp f m) (wSig f m)
  clear h1 h4 hm hf
  generalize nbC (wNeg f m) (wExp f m) (wSig f m) = cn at *
  generalize wNeg f m = ng at *
  go_enter Tryz.func11, Tryz.ntmps11
  go_wp2_with ((first | (refine kf gf32 hst (hs) rfl rfl rfl rfl ?_; clear hst; intro w hst) | (refine kf gf14 hst (hv) rfl rfl rfl rfl ?_; clear hst; intro w hst) | (refine kfd hfd rfl ?_) | (refine wl_guard (by rfl) ?_) | (refine kb 3 hst rfl rfl ?_; clear hst; intro b3 w hb3 hst) | (refine kl hst ta24 rfl ?_)); try simp only [pz, pn, sz, sc])
  refine bp_t rfl rfl (by rfl) ⟨?_, hst.keeps⟩
  rfl

theorem ref25_Some (f : Nat) (h1 : 1 ≤ f) (h4 : f ≤ 4) (m : Nat) (hm : m < M2) : Gives Tryz.prog 11 #[.int .i64 f, Wd m] (.bool (someB f m)) := by
  by_cases hf : m < 2 ^ fB f
  · have h := ref24_Some_of f m (clsN f m) (clsN_le f m) (ref06_Class f h1 h4 m hm hf)
    rw [clsN_sig f m hf] at h
    unfold someB
    cases hb : (finB f m && decide (wSig f m ≠ 0))
    · rw [hb] at h
      exact ref25_Some_no f m h
    · rw [hb] at h
      exact ref25_Some_is f h1 h4 m hm hf h
  · have h := ref24_Some_of f m 0 (by omega) (ref06_Class_no f h1 h4 m hm hf)
    have e : someB f m = false := by unfold someB finB; rw [decide_eq_false hf]; rfl
    rw [e]
    exact ref25_Some_no f m h
theorem ref25_Some_non (f : Int) (h : f < 1 ∨ 4 < f) (m : Nat) : Gives Tryz.prog 11 #[.int .i64 f, Wd m] (.bool false) := ref25_Some_no f m (ref24_Some_of f m 0 (by omega) (ref06_Class_non f h m))

theorem BigIn.any {s : Nat} {Lg : List (Nat × Obj)} {v : Value} {n : Nat} (h : BigIn s Lg v n) : BigIn 0 Lg v n := ⟨fun _ _ => Nat.zero_le _, h.2⟩
theorem BigIn.new {s : Nat} {Lg : List (Nat × Obj)} {v : Value} {n : Nat} (h : BigIn s Lg v n) : NewIn s Lg := ⟨h.1, h.2.1⟩
end Go.Proofs.YtefpoconpeggpaaGreatDoor.Rd

namespace Go.Proofs.YtefpoconpeggpaaGreatDoor.Rd
set_option linter.unusedVariables false

/-- c m k tells how m times 2^k stands to a number that lies, in units of 2^e, at r, or (s) between r and r + 1. -/
def KnC (c : Nat → Int → Int) (e : Int) (r : Nat) (s : Bool) : Prop := ∀ (m : Nat) (b : Nat), (c m (e + b) < 0 ↔ (m * 2 ^ b < r ∨ (m * 2 ^ b = r ∧ s = true))) ∧ (c m (e + b) = 0 ↔ (m * 2 ^ b = r ∧ s = false))
section
variable {c : Nat → Int → Int} {e : Int} {r : Nat} {s : Bool}
theorem KnC.le (h : KnC c e r s) (m b : Nat) : c m (e + b) ≤ 0 ↔ m ≤ r / 2 ^ b := by
  obtain ⟨h1, h2⟩ := h m b
  rw [Nat.le_div_iff_mul_le (Nat.pow_pos (by omega))]
  constructor
  · intro h
    rcases Int.lt_or_eq_of_le h with h | h
    · rcases h1.1 h with h | h <;> omega
    · have := (h2.1 h).1; omega
  · intro hq
    rcases Nat.lt_or_eq_of_le hq with hq | hq
    · have := h1.2 (.inl hq); omega
    · by_cases hs : s = true
      · have := h1.2 (.inr ⟨hq, hs⟩); omega
      · have := h2.2 ⟨hq, by simpa using hs⟩; omega
theorem KnC.eq (h : KnC c e r s) (b : Nat) : c (r / 2 ^ b) (e + b) = 0 ↔ (r % 2 ^ b = 0 ∧ s = false) := by
  rw [(h (r / 2 ^ b) b).2]
  have := Nat.div_add_mod r (2 ^ b)
  rw [Nat.mul_comm] at this
  constructor
  · rintro ⟨h1, h2⟩; exact ⟨by omega, h2⟩
  · rintro ⟨h1, h2⟩; exact ⟨by omega, h2⟩
theorem KnC.mid (h : KnC c e r s) (b : Nat) : max (-1) (min 1 (c (2 * (r / 2 ^ (b + 1)) + 1) (e + b))) = midC r b s := by
  obtain ⟨h1, h2⟩ := h (2 * (r / 2 ^ (b + 1)) + 1) b
  have hp : 0 < 2 ^ b := Nat.pow_pos (by omega)
  have hd := Nat.div_add_mod r (2 ^ b)
  have hm := Nat.mod_lt r hp
  rw [Nat.mul_comm] at hd
  unfold midC
  generalize 2 * (r / 2 ^ (b + 1)) + 1 = q at *
  generalize c q (e + b) = x at *
  generalize r / 2 ^ b = u at *
  generalize r % 2 ^ b = v at *
  generalize 2 ^ b = k at *
  rcases Nat.lt_trichotomy q u with hq | rfl | hq
  · rw [if_pos hq]
    have h3 : (q + 1) * k ≤ u * k := Nat.mul_le_mul_right _ hq
    rw [Nat.add_mul] at h3
    have := h1.2 (.inl (by omega))
    omega
  · rw [if_neg (by omega), if_neg (by omega)]
    by_cases hv : v = 0 ∧ s = false
    · rw [if_pos hv]
      have := h2.2 ⟨by omega, hv.2⟩
      omega
    · rw [if_neg hv]
      have : x < 0 := h1.2 (by
        by_cases h0 : v = 0
        · exact .inr ⟨by omega, by cases s <;> simp_all⟩
        · exact .inl (by omega))
      omega
  · rw [if_neg (by omega), if_pos hq]
    have h3 : (u + 1) * k ≤ q * k := Nat.mul_le_mul_right _ hq
    rw [Nat.add_mul] at h3
    have n1 : ¬ x < 0 := fun hx => by rcases h1.1 hx with h | h <;> omega
    have n2 : ¬ x = 0 := fun hx => by have := (h2.1 hx).1; omega
    omega
/-- What is cut off at a place, as the reference tells it. -/
theorem KnC.rest (h : KnC c e r s) (b : Nat) : (if c (r / 2 ^ (b + 1)) (e + (b + 1 : Nat)) = 0 then 0 else 2 - max (-1) (min 1 (c (2 * (r / 2 ^ (b + 1)) + 1) (e + b)))) = (restN r (b + 1) s : Int) := by
  rw [rest_mid, h.mid]
  by_cases hx : r % 2 ^ (b + 1) = 0 ∧ s = false
  · rw [if_pos hx, if_pos ((h.eq (b + 1)).2 hx)]
  · rw [if_neg hx, if_neg (fun h' => hx ((h.eq (b + 1)).1 h'))]
theorem KnC.top (h : KnC c e r s) (hr : r ≠ 0) (b : Nat) : c 1 (e + b) ≤ 0 ↔ b < bl r := by
  rw [h.le, Nat.le_div_iff_mul_le (Nat.pow_pos (by omega)), Nat.one_mul]
  have h1 := (bl_spec r).1
  have h2 := bl_lo hr
  have h3 := bl_pos hr
  constructor
  · intro h
    rcases Nat.lt_or_ge b (bl r) with h' | h'
    · exact h'
    · have : 2 ^ bl r ≤ 2 ^ b := Nat.pow_le_pow_right (by omega) h'
      omega
  · intro h
    have : 2 ^ b ≤ 2 ^ (bl r - 1) := Nat.pow_le_pow_right (by omega) (by omega)
    omega
end

/-- The root of N times 2^E, that in units of 2^e is the root of n, whose whole part is r. -/
theorem KnC.root (N : Nat) (E e : Int) (t n r : Nat) (hE : E = 2 * e + t) (hn : n = N * 2 ^ t) (h1 : r * r ≤ n) (h2 : n < (r + 1) * (r + 1)) : KnC (fun m k => szC (m * m) (2 * k) N E) e r (decide (r * r ≠ n)) := by
  intro m b
  dsimp only
  obtain ⟨a1, a2⟩ := szC_sign (m * m) (2 * (e + b)) N E
  obtain ⟨h3, h4⟩ := scale_lt (m * m) N (2 * (e + b)) E (2 * e) (by omega) (by omega)
  rw [a1, a2, h3, h4, show (2 * (e + (b : Int)) - 2 * e).toNat = b + b by omega, show (E - 2 * e).toNat = t by omega, ← hn, Nat.pow_add]
  have em : m * m * (2 ^ b * 2 ^ b) = m * 2 ^ b * (m * 2 ^ b) := by grind
  rw [em]
  generalize m * 2 ^ b = x
  have hs : ∀ a b : Nat, a < b → a * a < b * b := fun a b h => Nat.mul_self_lt_mul_self h
  constructor
  · constructor
    · intro h
      rcases Nat.lt_trichotomy x r with h' | h' | h'
      · exact .inl h'
      · subst h'; exact .inr ⟨rfl, by simp; omega⟩
      · have := Nat.mul_self_le_mul_self (show r + 1 ≤ x from h'); omega
    · rintro (h | ⟨rfl, h⟩)
      · have := hs x r h; omega
      · simp at h; omega
  · constructor
    · intro h
      rcases Nat.lt_trichotomy x r with h' | h' | h'
      · have := hs x r h'; omega
      · subst h'; exact ⟨rfl, by simp; exact h⟩
      · have := Nat.mul_self_le_mul_self (show r + 1 ≤ x from h'); omega
    · rintro ⟨rfl, h⟩
      simpa using h

end Go.Proofs.YtefpoconpeggpaaGreatDoor.Rd

namespace Go.Proofs.YtefpoconpeggpaaGreatDoor.Rd
set_option linter.unusedVariables false

theorem pow_lt_of (p : Nat) {a k : Nat} (h : a < 2 ^ p) : a * 2 ^ k < 2 ^ (p + k) := by
  rw [Nat.pow_add]; exact Nat.mul_lt_mul_of_pos_right h (Nat.pow_pos (by omega))
theorem le_mul_pow (p : Nat) {a k : Nat} (h : 2 ^ p ≤ a) : 2 ^ (p + k) ≤ a * 2 ^ k := by
  rw [Nat.pow_add]; exact Nat.mul_le_mul_right _ h
/-- sg: a significand of p digits; by: p + 4 or p + 5; r: the root of what is shifted up. -/
theorem radicand_in (p sg by' r : Nat) (hp : 1 ≤ p) (hp2 : p ≤ 113) (h1 : 2 ^ (p - 1) ≤ sg) (h2 : sg < 2 ^ p) (hb1 : p + 4 ≤ by') (hb2 : by' ≤ p + 5) (hr1 : r * r ≤ sg * 2 ^ by') (hr2 : sg * 2 ^ by' < (r + 1) * (r + 1)) :
    sg * 2 ^ by' < 2 ^ 256 ∧ p < bl r ∧ bl r ≤ p + 3 ∧ sg * 2 ^ by' ≠ 0 := by
  have a1 := pow_lt_of p (k := by') h2
  have a2 := le_mul_pow (p - 1) (k := by') h1
  have a3 : 2 ^ (p + by') ≤ 2 ^ 256 := Nat.pow_le_pow_right (by omega) (by omega)
  have a4 : 2 ^ (p + 1 + (p + 1)) ≤ 2 ^ (p - 1 + by') := Nat.pow_le_pow_right (by omega) (by omega)
  have a5 : 2 ^ (p + by') ≤ 2 ^ (p + 3 + (p + 3)) := Nat.pow_le_pow_right (by omega) (by omega)
  have h0 : 0 < 2 ^ (p - 1 + by') := Nat.pow_pos (by omega)
  rw [Nat.pow_add 2 (p + 1) (p + 1)] at a4
  rw [Nat.pow_add 2 (p + 3) (p + 3)] at a5
  have b1 : 2 ^ (p + 1) ≤ r := by
    rcases Nat.lt_or_ge r (2 ^ (p + 1)) with h | h
    · have := Nat.mul_self_le_mul_self (show r + 1 ≤ 2 ^ (p + 1) from h)
      omega
    · exact h
  have b2 : r < 2 ^ (p + 3) := by
    rcases Nat.lt_or_ge r (2 ^ (p + 3)) with h | h
    · exact h
    · have := Nat.mul_self_le_mul_self h
      omega
  refine ⟨by omega, ?_, bl_le.2 b2, by omega⟩
  rcases Nat.lt_or_ge p (bl r) with h | h
  · exact h
  · have := bl_le.1 h
    have : 2 ^ p ≤ 2 ^ (p + 1) := Nat.pow_le_pow_right (by omega) (by omega)
    omega

end Go.Proofs.YtefpoconpeggpaaGreatDoor.Rd

namespace Go.Proofs.YtefpoconpeggpaaGreatDoor.Rd
set_option linter.unusedVariables false

/-- The exponent of the least unit. -/
def eLo (f : Nat) : Int := 2 - (fE f : Int) - fP f
/-- What a word stands for, held against a number: at any exponent that isn't above. -/
theorem szC_word (f w : Nat) (u : Nat) (pl l : Int) (h1 : l ≤ eLo f) (h2 : l ≤ pl) (we : Int) (hwe : we = ((wField f w - 1 : Nat) : Int) + (1 - (fE f : Int)) - fP f + 1) :
    (szC (wSig f w) we u pl ≤ 0 ↔ wV f w * 2 ^ (eLo f - l).toNat ≤ u * 2 ^ (pl - l).toNat) ∧ (szC (wSig f w) we u pl = 0 ↔ wV f w * 2 ^ (eLo f - l).toNat = u * 2 ^ (pl - l).toNat) := by
  obtain ⟨a1, a2⟩ := szC_sign (wSig f w) we u pl
  have hl : l ≤ we := by unfold eLo at h1; omega
  obtain ⟨b1, b2⟩ := scale_lt (wSig f w) u we pl l hl h2
  have e : wSig f w * 2 ^ (we - l).toNat = wV f w * 2 ^ (eLo f - l).toNat := by
    unfold wV
    rw [Nat.mul_assoc, ← Nat.pow_add]
    congr 2
    unfold eLo at *
    omega
  rw [e] at b1 b2
  constructor
  · constructor
    · intro h
      rcases Int.lt_or_eq_of_le h with h | h
      · exact Nat.le_of_lt (b1.1 (a1.1 h))
      · exact Nat.le_of_eq (b2.1 (a2.1 h))
    · intro h
      rcases Nat.lt_or_eq_of_le h with h | h
      · exact Int.le_of_lt (a1.2 (b1.2 h))
      · exact Int.le_of_eq (a2.2 (b2.2 h))
  · rw [a2, b2]

/-- M' is the greatest finite word, without its sign, that isn't above u times 2^pl. -/
def IsFind (f u : Nat) (pl : Int) (M' : Nat) : Prop := M' < (2 * fE f + 1) * 2 ^ (fP f - 1) ∧ ∀ w, w < 2 ^ (fB f - 1) → ∀ we : Int, we = ((wField f w - 1 : Nat) : Int) + (1 - (fE f : Int)) - fP f + 1 → ((wFin f w = true ∧ szC (wSig f w) we u pl ≤ 0) ↔ w ≤ M')
/-- A number that just is a word's. -/
theorem IsFind.exact (f u : Nat) (pl l : Int) (M' : Nat) (h1 : l ≤ eLo f) (h2 : l ≤ pl) (hM : M' < (2 * fE f + 1) * 2 ^ (fP f - 1)) (he : wV f M' * 2 ^ (eLo f - l).toNat = u * 2 ^ (pl - l).toNat) : IsFind f u pl M' := by
  refine ⟨hM, fun w hw we hwe => ?_⟩
  rw [(szC_word f w u pl l h1 h2 we hwe).1, ← he, Nat.mul_le_mul_right_iff (Nat.pow_pos (by omega))]
  exact find_exact f hw hM

end Go.Proofs.YtefpoconpeggpaaGreatDoor.Rd

namespace Go.Proofs.YtefpoconpeggpaaGreatDoor.Rd
set_option linter.unusedVariables false

/-- What a text of signs is worth. -/
def sv (l : List UInt8) : Nat := l.foldl (fun a c => 2 * a + (if c = 49 then 1 else 0)) 0
/-- The word of an infinite one. -/
def infW (f : Nat) (ng : Bool) : Nat := (2 * fE f + 1) * 2 ^ (fP f - 1) + (if ng then 2 ^ (fB f - 1) else 0)
def maxW (f : Nat) (ng : Bool) : Nat := (2 * fE f + 1) * 2 ^ (fP f - 1) - 1 + (if ng then 2 ^ (fB f - 1) else 0)
end Go.Proofs.YtefpoconpeggpaaGreatDoor.Rd
