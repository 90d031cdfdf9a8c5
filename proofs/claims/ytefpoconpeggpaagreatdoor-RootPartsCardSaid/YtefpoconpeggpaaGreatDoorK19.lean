/- What pack.at, digits answer, of any number. -/
import Derived.Test.YtefpoconpeggpaaGreatDoorK17
import Derived.Test.YtefpoconpeggpaaGreatDoorK18
namespace Go.Proofs.YtefpoconpeggpaaGreatDoor.Rd
open Go Go.RowKit
set_option linter.unusedVariables false
set_option linter.unusedSimpArgs false
set_option maxRecDepth 100000

/-- A word made of a sign, a field, a fraction. -/
def mkW (f : Nat) (ng : Bool) (fld fr : Nat) : Nat := fr + fld * 2 ^ (fP f - 1) + (if ng then 2 ^ (fB f - 1) else 0)

set_option maxHeartbeats 4000000 in
theorem class_Make (f : Nat) (h1 : 1 ≤ f) (h4 : f ≤ 4) (ng : Bool) (fld fr : Nat) (hf : fld ≤ 2 * fE f + 1) (hfr : fr < 2 ^ (fP f - 1)) (w0 : World) (hF : FmtIn w0) :
    GivesAt Tryz.prog 123 #[.int .i64 f, .bool ng, .int .i64 fld, W fr] (.tuple #[Wd (mkW f ng fld fr), .bool true]) w0 := by
  have hst := St.start [] w0
  have hk := Lib.hid (fun w (k : Keeps [] w0 w) => hF.keep k (by simp))
  have hof := fun w h => format_Of f h1 h4 w h
  have hP := fP_in f
  have hE := fE_in f
  have hB := fB_in f
  have hpM : 2 ^ (fP f - 1) < M := small_M2 _ (by omega)
  have hfM : fr < M := Nat.lt_trans hfr hpM
  have hlen := wide_Len fr hfM
  have hbl : bl fr ≤ fP f - 1 := bl_le.2 hfr
  have hfB : fld < B := by rw [B_val]; omega
  have hwo := of_u64 fld hfB
  have h1' := Lib.hid (wc_1 fld hfB)
  have hx : fr + fld * 2 ^ (fP f - 1) < 2 ^ (fB f - 1) := by
    have e : 2 ^ (fB f - 1) = 2 ^ fK f * 2 ^ (fP f - 1) := by rw [← Nat.pow_add, fBPK]; congr 1; omega
    rw [e, ← fE_pow]
    have : (fld + 1) * 2 ^ (fP f - 1) ≤ (2 * fE f + 2) * 2 ^ (fP f - 1) := Nat.mul_le_mul_right _ (by omega)
    rw [Nat.add_mul, Nat.one_mul] at this
    omega
  have hbM : 2 ^ (fB f - 1) < M := small_M2 _ (by omega)
  have hshl := wide_Shl fld (fP f - 1 : Nat) (Nat.lt_trans hfB (small_M2 64 (by omega)))
  rw [clampN_nat _ (by omega), Nat.mod_eq_of_lt (show fld * 2 ^ (fP f - 1) < M by omega)] at hshl
  have hadd := wide_Add fr (fld * 2 ^ (fP f - 1)) hfM (by omega)
  rw [Nat.mod_eq_of_lt (show fr + fld * 2 ^ (fP f - 1) < M by omega)] at hadd
  have hpw := wide_Power ((fB f : Int) - 1)
  rw [show pow2 ((fB f : Int) - 1) = 2 ^ (fB f - 1) by unfold pow2; rw [if_pos (by omega)]; congr 1; omega] at hpw
  have h2 : 2 ^ (fB f - 1) + 2 ^ (fB f - 1) ≤ M2 := by
    have a : 2 ^ fB f ≤ 2 ^ 128 := Nat.pow_le_pow_right (by omega) hB.2
    have b : 2 ^ fB f = 2 ^ (fB f - 1) + 2 ^ (fB f - 1) := by
      obtain ⟨p, hp⟩ : ∃ p, fB f = p + 1 := ⟨fB f - 1, by omega⟩
      rw [hp, Nat.add_sub_cancel, Nat.pow_succ]; omega
    have c : M2 = 2 ^ 128 := by decide
    omega
  have h2M : M2 ≤ M := by rw [M_eq]; exact Nat.pow_le_pow_right B_pos (by omega)
  have hadd2 := wide_Add (fr + fld * 2 ^ (fP f - 1)) (2 ^ (fB f - 1)) (by omega) hbM
  rw [Nat.mod_eq_of_lt (show fr + fld * 2 ^ (fP f - 1) + 2 ^ (fB f - 1) < M by omega)] at hadd2
  have hlow1 := wide_Low (fr + fld * 2 ^ (fP f - 1))
  rw [Nat.mod_eq_of_lt (by omega)] at hlow1
  have hlow2 := wide_Low (fr + fld * 2 ^ (fP f - 1) + 2 ^ (fB f - 1))
  rw [Nat.mod_eq_of_lt (by omega)] at hlow2
  rw [show ((fP f - 1 : Nat) : Int) = (fP f : Int) - 1 by omega] at hshl
  have hW1 : IntKind.i64.wrap ((fP f : Int) - 1) = (fP f : Int) - 1 := by rw [IntKind.wrap_i64]; omega
  have hW2 : IntKind.i64.wrap ((fB f : Int) - 1) = (fB f : Int) - 1 := by rw [IntKind.wrap_i64]; omega
  have hW3 : IntKind.i64.wrap (2 * (fE f : Int)) = 2 * (fE f : Int) := by rw [IntKind.wrap_i64]; omega
  have hW4 : IntKind.i64.wrap (2 * (fE f : Int) + 1) = 2 * (fE f : Int) + 1 := by rw [IntKind.wrap_i64]; omega
  have hW5 : IntKind.u64.wrap (fld : Int) = (fld : Int) := by rw [u64_wrap, Nat.mod_eq_of_lt hfB]
  have Q1 : decide ((fld : Int) < 0) = false := decide_eq_false (by omega)
  have Q2 : decide (2 * (fE f : Int) + 1 < (fld : Int)) = false := decide_eq_false (by omega)
  have Q3 : decide ((fP f : Int) - 1 < (bl fr : Int)) = false := decide_eq_false (by omega)
  have z1 := fmC_size f
  have z2 := fmC_one f
  have g0 : (fmC f)[0]? = some (.int .i64 (fB f : Nat)) := rfl
  have g1 : (fmC f)[0 + 1]? = some (.int .i64 (fP f : Nat)) := rfl
  have g2 : (fmC f)[0 + 2]? = some (.int .i64 (fE f : Nat)) := rfl
  unfold mkW
  clear hF hf hfr hbl hfB hx hbM h2 h2M hpM hfM
  obtain ⟨x2, hx2⟩ : ∃ x2, fr + fld * 2 ^ (fP f - 1) + 2 ^ (fB f - 1) = x2 := ⟨_, rfl⟩
  rw [hx2] at hadd2 hlow2
  generalize fr + fld * 2 ^ (fP f - 1) = x1 at *
  generalize fld * 2 ^ (fP f - 1) = x0 at *
  generalize 2 ^ (fB f - 1) = pb' at *
  generalize bl fr = k at *
  generalize fmC f = cs at *
  generalize fP f = p at *
  generalize fE f = E at *
  generalize fB f = bb at *
  cases ng
  · rw [if_neg (by simp), Nat.add_zero]
    clear hx2
    go_enter Tryz.func123, Tryz.ntmps123
    go_wp2_with ((first | (refine kg gf70 hst (fun w hst => hof w (hk.out w hst.keeps)) rfl rfl rfl rfl ?_; clear hst; intro w hst) | (refine kb 7 hst rfl rfl ?_; clear hst; intro b7 w hb7 hst) | (refine ka 8 hst tz24 rfl rfl ?_; clear hst; intro b8 w hb8 hst) | (refine ka 10 hst tz128 rfl rfl ?_; clear hst; intro b10 w hb10 hst) | (refine kt hst ta128 rfl rfl ?_; clear hst; intro w hst)); try simp only [pz, pn, sz, sc])
    refine wp_region_T 22  hst (by kernel_rfl) ?_; clear hst; intro w hst; (try simp only [List.length_cons, List.length_nil, Nat.reduceAdd, Array.replicate_succ, Array.replicate_zero, List.push_toArray, List.nil_append, List.cons_append])
    refine r0 0 ?_; simp only [pz, pn, sz, sc, hW1, hW3, hW4, Q1, Q2, Q3]
    refine r0 1 ?_; simp only [pz, pn, sz, sc, hW1, hW3, hW4, Q1, Q2, Q3]
    refine r0 2 ?_; simp only [pz, pn, sz, sc, hW1, hW3, hW4, Q1, Q2, Q3]
    refine r0 3 ?_; simp only [pz, pn, sz, sc, hW1, hW3, hW4, Q1, Q2, Q3]
    refine r0 4 ?_; simp only [pz, pn, sz, sc, hW1, hW3, hW4, Q1, Q2, Q3]
    refine r0 5 ?_; simp only [pz, pn, sz, sc, hW1, hW3, hW4, Q1, Q2, Q3]
    refine r0 6 ?_; simp only [pz, pn, sz, sc, hW1, hW3, hW4, Q1, Q2, Q3]
    refine r0 7 ?_; simp only [pz, pn, sz, sc, hW1, hW3, hW4, Q1, Q2, Q3]
    refine r0 8 ?_; simp only [pz, pn, sz, sc, hW1, hW3, hW4, Q1, Q2, Q3]
    refine rl 9 rfl ?_ (ylC tc3); simp only [pz, pn, sz, sc, hW1, hW3, hW4, Q1, Q2, Q3]
    refine r0 10 ?_; simp only [pz, pn, sz, sc, hW1, hW3, hW4, Q1, Q2, Q3]
    refine r0 11 ?_; simp only [pz, pn, sz, sc, hW1, hW3, hW4, Q1, Q2, Q3]
    refine r0 12 ?_; simp only [pz, pn, sz, sc, hW1, hW3, hW4, Q1, Q2, Q3]
    refine r0 13 ?_; simp only [pz, pn, sz, sc, hW1, hW3, hW4, Q1, Q2, Q3]
    refine r0 14 ?_; simp only [pz, pn, sz, sc, hW1, hW3, hW4, Q1, Q2, Q3]
    refine r0 17 ?_; simp only [pz, pn, sz, sc, hW1, hW3, hW4, Q1, Q2, Q3]
    refine rl 15 rfl ?_ (by first | exact ylA ta44 | exact ylM ta44); simp only [pz, pn, sz, sc, hW1, hW3, hW4, Q1, Q2, Q3]
    refine rl 18 rfl ?_ (ylC tc3); simp only [pz, pn, sz, sc, hW1, hW3, hW4, Q1, Q2, Q3]
    refine r0 19 ?_; simp only [pz, pn, sz, sc, hW1, hW3, hW4, Q1, Q2, Q3]
    refine r1 16 ?_; (try refine wl_guard (by rfl) ?_); (refine kf gf47 hst (hlen) rfl rfl rfl rfl ?_; clear hst; intro w hst); (try simp only [pz, pn, sz, sc, hW1, hW3, hW4, Q1, Q2, Q3]); refine re ?_
    refine r0 20 ?_; simp only [pz, pn, sz, sc, hW1, hW3, hW4, Q1, Q2, Q3]
    refine r0 21 ?_; simp only [pz, pn, sz, sc, hW1, hW3, hW4, Q1, Q2, Q3]
    refine rd_ ?_
    go_wp2_with fail
    refine wp_region_T 14  hst (by kernel_rfl) ?_; clear hst; intro w hst; (try simp only [List.length_cons, List.length_nil, Nat.reduceAdd, Array.replicate_succ, Array.replicate_zero, List.push_toArray, List.nil_append, List.cons_append])
    refine r0 1 ?_; simp only [pz, pn, sz, sc, hW1, hW5]
    refine r0 2 ?_; simp only [pz, pn, sz, sc, hW1, hW5]
    refine r0 5 ?_; simp only [pz, pn, sz, sc, hW1, hW5]
    refine rl 0 rfl ?_ (by first | exact ylA ta44 | exact ylM ta44); simp only [pz, pn, sz, sc, hW1, hW5]
    refine rl 6 rfl ?_ (ylC tc3); simp only [pz, pn, sz, sc, hW1, hW5]
    refine r0 7 ?_; simp only [pz, pn, sz, sc, hW1, hW5]
    refine r2 3 13 ?_ ?_
    (refine wl_slice1 (o := ⟨some 46, _, _, _, _, _⟩) hst ts123 te22 rfl rfl (by (simp only [eval_lit, eval_k, eval_f, eval_g, List.getD_cons_succ, List.getD_cons_zero]) <;> rfl) (by rfl) ?_; clear hst; intro b46 w hb46 hst); (try simp only [pz, pn, sz, sc, hW1, hW5]); refine re ?_
    refine r2 4 13 ?_ ?_
    (refine kg gf131 hst (fun w hst => hwo _ w (by rw [← h1'.out]; exact hst.own _ _ (by repeat (first | exact List.Mem.head _ | refine List.Mem.tail _ ?_)))) rfl rfl rfl rfl ?_; clear hst; intro w hst); (try simp only [pz, pn, sz, sc, hW1, hW5]); refine re ?_
    refine r2 8 13 ?_ ?_
    (refine kf gf48 hst (hshl) rfl rfl rfl rfl ?_; clear hst; intro w hst); (try simp only [pz, pn, sz, sc, hW1, hW5]); refine re ?_
    refine r2 9 13 ?_ ?_
    (refine kf gf104 hst (hadd) rfl rfl rfl rfl ?_; clear hst; intro w hst); (try simp only [pz, pn, sz, sc, hW1, hW5]); refine re ?_
    refine r0 10 ?_; simp only [pz, pn, sz, sc, hW1, hW5]
    refine r0 11 ?_; simp only [pz, pn, sz, sc, hW1, hW5]
    refine r0 12 ?_; simp only [pz, pn, sz, sc, hW1, hW5]
    refine r1 13 ?_; (refine ka 12 hst tz44 rfl rfl ?_; clear hst; intro b12 w hb12 hst); (try simp only [pz, pn, sz, sc, hW1, hW5]); refine re ?_
    refine r1 14 ?_; (refine kt hst ta44 rfl rfl ?_; clear hst; intro w hst); (try simp only [pz, pn, sz, sc, hW1, hW5]); refine re ?_
    refine r0 15 ?_; simp only [pz, pn, sz, sc, hW1, hW5]
    refine rd_ ?_
    rotate_left 1
    (refine ka 12 hst tz44 rfl rfl ?_; clear hst; intro b12 w hb12 hst); (try simp only [pz, pn, sz, sc, hW1, hW5]); refine re ?_
    refine r1 9 ?_; (refine kf gf104 hst (hadd) rfl rfl rfl rfl ?_; clear hst; intro w hst); (try simp only [pz, pn, sz, sc, hW1, hW5]); refine re ?_
    refine r0 10 ?_; simp only [pz, pn, sz, sc, hW1, hW5]
    refine r0 11 ?_; simp only [pz, pn, sz, sc, hW1, hW5]
    refine r0 12 ?_; simp only [pz, pn, sz, sc, hW1, hW5]
    refine r1 14 ?_; (refine kt hst ta44 rfl rfl ?_; clear hst; intro w hst); (try simp only [pz, pn, sz, sc, hW1, hW5]); refine re ?_
    refine r0 15 ?_; simp only [pz, pn, sz, sc, hW1, hW5]
    refine rd_ ?_
    rotate_right 1
    rotate_left 2
    (refine ka 12 hst tz44 rfl rfl ?_; clear hst; intro b12 w hb12 hst); (try simp only [pz, pn, sz, sc, hW1, hW5]); refine re ?_
    refine r1 8 ?_; (refine kf gf48 hst (hshl) rfl rfl rfl rfl ?_; clear hst; intro w hst); (try simp only [pz, pn, sz, sc, hW1, hW5]); refine re ?_
    refine r1 9 ?_; (refine kf gf104 hst (hadd) rfl rfl rfl rfl ?_; clear hst; intro w hst); (try simp only [pz, pn, sz, sc, hW1, hW5]); refine re ?_
    refine r0 10 ?_; simp only [pz, pn, sz, sc, hW1, hW5]
    refine r0 11 ?_; simp only [pz, pn, sz, sc, hW1, hW5]
    refine r0 12 ?_; simp only [pz, pn, sz, sc, hW1, hW5]
    refine r1 14 ?_; (refine kt hst ta44 rfl rfl ?_; clear hst; intro w hst); (try simp only [pz, pn, sz, sc, hW1, hW5]); refine re ?_
    refine r0 15 ?_; simp only [pz, pn, sz, sc, hW1, hW5]
    refine rd_ ?_
    rotate_right 2
    rotate_left 3
    (refine ka 12 hst tz44 rfl rfl ?_; clear hst; intro b12 w hb12 hst); (try simp only [pz, pn, sz, sc, hW1, hW5]); refine re ?_
    refine r1 4 ?_; (refine kg gf131 hst (fun w hst => hwo _ w (by rw [← h1'.out]; exact hst.own _ _ (by repeat (first | exact List.Mem.head _ | refine List.Mem.tail _ ?_)))) rfl rfl rfl rfl ?_; clear hst; intro w hst); (try simp only [pz, pn, sz, sc, hW1, hW5]); refine re ?_
    refine r1 8 ?_; (refine kf gf48 hst (hshl) rfl rfl rfl rfl ?_; clear hst; intro w hst); (try simp only [pz, pn, sz, sc, hW1, hW5]); refine re ?_
    refine r1 9 ?_; (refine kf gf104 hst (hadd) rfl rfl rfl rfl ?_; clear hst; intro w hst); (try simp only [pz, pn, sz, sc, hW1, hW5]); refine re ?_
    refine r0 10 ?_; simp only [pz, pn, sz, sc, hW1, hW5]
    refine r0 11 ?_; simp only [pz, pn, sz, sc, hW1, hW5]
    refine r0 12 ?_; simp only [pz, pn, sz, sc, hW1, hW5]
    refine r1 14 ?_; (refine kt hst ta44 rfl rfl ?_; clear hst; intro w hst); (try simp only [pz, pn, sz, sc, hW1, hW5]); refine re ?_
    refine r0 15 ?_; simp only [pz, pn, sz, sc, hW1, hW5]
    refine rd_ ?_
    rotate_right 3
    rotate_left 4
    (refine ka 12 hst tz44 rfl rfl ?_; clear hst; intro b12 w hb12 hst); (try simp only [pz, pn, sz, sc, hW1, hW5]); refine re ?_
    refine r1 3 ?_; (refine wl_slice1 (o := ⟨some 46, _, _, _, _, _⟩) hst ts123 te22 rfl rfl (by (simp only [eval_lit, eval_k, eval_f, eval_g, List.getD_cons_succ, List.getD_cons_zero]) <;> rfl) (by rfl) ?_; clear hst; intro b46 w hb46 hst); (try simp only [pz, pn, sz, sc, hW1, hW5]); refine re ?_
    refine r1 4 ?_; (refine kg gf131 hst (fun w hst => hwo _ w (by rw [← h1'.out]; exact hst.own _ _ (by repeat (first | exact List.Mem.head _ | refine List.Mem.tail _ ?_)))) rfl rfl rfl rfl ?_; clear hst; intro w hst); (try simp only [pz, pn, sz, sc, hW1, hW5]); refine re ?_
    refine r1 8 ?_; (refine kf gf48 hst (hshl) rfl rfl rfl rfl ?_; clear hst; intro w hst); (try simp only [pz, pn, sz, sc, hW1, hW5]); refine re ?_
    refine r1 9 ?_; (refine kf gf104 hst (hadd) rfl rfl rfl rfl ?_; clear hst; intro w hst); (try simp only [pz, pn, sz, sc, hW1, hW5]); refine re ?_
    refine r0 10 ?_; simp only [pz, pn, sz, sc, hW1, hW5]
    refine r0 11 ?_; simp only [pz, pn, sz, sc, hW1, hW5]
    refine r0 12 ?_; simp only [pz, pn, sz, sc, hW1, hW5]
    refine r1 14 ?_; (refine kt hst ta44 rfl rfl ?_; clear hst; intro w hst); (try simp only [pz, pn, sz, sc, hW1, hW5]); refine re ?_
    refine r0 15 ?_; simp only [pz, pn, sz, sc, hW1, hW5]
    refine rd_ ?_
    rotate_right 4
    all_goals
      go_wp2_with ((first | (refine kf gf139 hst (hlow1) rfl rfl rfl rfl ?_; clear hst; intro w hst) | (refine kl hst ta44 rfl ?_) | (refine kt hst ta24 rfl rfl ?_; clear hst; intro w hst)); try simp only [pz, pn, sz, sc])
      refine bp_ct rfl rfl (la hst ta24) (by rfl) ⟨?_, hst.keeps⟩
      rfl
  · rw [if_pos rfl, hx2]
    clear hx2
    go_enter Tryz.func123, Tryz.ntmps123
    go_wp2_with ((first | (refine kg gf70 hst (fun w hst => hof w (hk.out w hst.keeps)) rfl rfl rfl rfl ?_; clear hst; intro w hst) | (refine kb 7 hst rfl rfl ?_; clear hst; intro b7 w hb7 hst) | (refine ka 8 hst tz24 rfl rfl ?_; clear hst; intro b8 w hb8 hst) | (refine ka 10 hst tz128 rfl rfl ?_; clear hst; intro b10 w hb10 hst) | (refine kt hst ta128 rfl rfl ?_; clear hst; intro w hst)); try simp only [pz, pn, sz, sc])
    refine wp_region_T 22  hst (by kernel_rfl) ?_; clear hst; intro w hst; (try simp only [List.length_cons, List.length_nil, Nat.reduceAdd, Array.replicate_succ, Array.replicate_zero, List.push_toArray, List.nil_append, List.cons_append])
    refine r0 0 ?_; simp only [pz, pn, sz, sc, hW1, hW3, hW4, Q1, Q2, Q3]
    refine r0 1 ?_; simp only [pz, pn, sz, sc, hW1, hW3, hW4, Q1, Q2, Q3]
    refine r0 2 ?_; simp only [pz, pn, sz, sc, hW1, hW3, hW4, Q1, Q2, Q3]
    refine r0 3 ?_; simp only [pz, pn, sz, sc, hW1, hW3, hW4, Q1, Q2, Q3]
    refine r0 4 ?_; simp only [pz, pn, sz, sc, hW1, hW3, hW4, Q1, Q2, Q3]
    refine r0 5 ?_; simp only [pz, pn, sz, sc, hW1, hW3, hW4, Q1, Q2, Q3]
    refine r0 6 ?_; simp only [pz, pn, sz, sc, hW1, hW3, hW4, Q1, Q2, Q3]
    refine r0 7 ?_; simp only [pz, pn, sz, sc, hW1, hW3, hW4, Q1, Q2, Q3]
    refine r0 8 ?_; simp only [pz, pn, sz, sc, hW1, hW3, hW4, Q1, Q2, Q3]
    refine rl 9 rfl ?_ (ylC tc3); simp only [pz, pn, sz, sc, hW1, hW3, hW4, Q1, Q2, Q3]
    refine r0 10 ?_; simp only [pz, pn, sz, sc, hW1, hW3, hW4, Q1, Q2, Q3]
    refine r0 11 ?_; simp only [pz, pn, sz, sc, hW1, hW3, hW4, Q1, Q2, Q3]
    refine r0 12 ?_; simp only [pz, pn, sz, sc, hW1, hW3, hW4, Q1, Q2, Q3]
    refine r0 13 ?_; simp only [pz, pn, sz, sc, hW1, hW3, hW4, Q1, Q2, Q3]
    refine r0 14 ?_; simp only [pz, pn, sz, sc, hW1, hW3, hW4, Q1, Q2, Q3]
    refine r0 17 ?_; simp only [pz, pn, sz, sc, hW1, hW3, hW4, Q1, Q2, Q3]
    refine rl 15 rfl ?_ (by first | exact ylA ta44 | exact ylM ta44); simp only [pz, pn, sz, sc, hW1, hW3, hW4, Q1, Q2, Q3]
    refine rl 18 rfl ?_ (ylC tc3); simp only [pz, pn, sz, sc, hW1, hW3, hW4, Q1, Q2, Q3]
    refine r0 19 ?_; simp only [pz, pn, sz, sc, hW1, hW3, hW4, Q1, Q2, Q3]
    refine r1 16 ?_; (try refine wl_guard (by rfl) ?_); (refine kf gf47 hst (hlen) rfl rfl rfl rfl ?_; clear hst; intro w hst); (try simp only [pz, pn, sz, sc, hW1, hW3, hW4, Q1, Q2, Q3]); refine re ?_
    refine r0 20 ?_; simp only [pz, pn, sz, sc, hW1, hW3, hW4, Q1, Q2, Q3]
    refine r0 21 ?_; simp only [pz, pn, sz, sc, hW1, hW3, hW4, Q1, Q2, Q3]
    refine rd_ ?_
    go_wp2_with fail
    refine wp_region_T 14  hst (by kernel_rfl) ?_; clear hst; intro w hst; (try simp only [List.length_cons, List.length_nil, Nat.reduceAdd, Array.replicate_succ, Array.replicate_zero, List.push_toArray, List.nil_append, List.cons_append])
    refine r0 1 ?_; simp only [pz, pn, sz, sc, hW1, hW5]
    refine r0 2 ?_; simp only [pz, pn, sz, sc, hW1, hW5]
    refine r0 5 ?_; simp only [pz, pn, sz, sc, hW1, hW5]
    refine rl 0 rfl ?_ (by first | exact ylA ta44 | exact ylM ta44); simp only [pz, pn, sz, sc, hW1, hW5]
    refine rl 6 rfl ?_ (ylC tc3); simp only [pz, pn, sz, sc, hW1, hW5]
    refine r0 7 ?_; simp only [pz, pn, sz, sc, hW1, hW5]
    refine r2 3 13 ?_ ?_
    (refine wl_slice1 (o := ⟨some 46, _, _, _, _, _⟩) hst ts123 te22 rfl rfl (by (simp only [eval_lit, eval_k, eval_f, eval_g, List.getD_cons_succ, List.getD_cons_zero]) <;> rfl) (by rfl) ?_; clear hst; intro b46 w hb46 hst); (try simp only [pz, pn, sz, sc, hW1, hW5]); refine re ?_
    refine r2 4 13 ?_ ?_
    (refine kg gf131 hst (fun w hst => hwo _ w (by rw [← h1'.out]; exact hst.own _ _ (by repeat (first | exact List.Mem.head _ | refine List.Mem.tail _ ?_)))) rfl rfl rfl rfl ?_; clear hst; intro w hst); (try simp only [pz, pn, sz, sc, hW1, hW5]); refine re ?_
    refine r2 8 13 ?_ ?_
    (refine kf gf48 hst (hshl) rfl rfl rfl rfl ?_; clear hst; intro w hst); (try simp only [pz, pn, sz, sc, hW1, hW5]); refine re ?_
    refine r2 9 13 ?_ ?_
    (refine kf gf104 hst (hadd) rfl rfl rfl rfl ?_; clear hst; intro w hst); (try simp only [pz, pn, sz, sc, hW1, hW5]); refine re ?_
    refine r0 10 ?_; simp only [pz, pn, sz, sc, hW1, hW5]
    refine r0 11 ?_; simp only [pz, pn, sz, sc, hW1, hW5]
    refine r0 12 ?_; simp only [pz, pn, sz, sc, hW1, hW5]
    refine r1 13 ?_; (refine ka 12 hst tz44 rfl rfl ?_; clear hst; intro b12 w hb12 hst); (try simp only [pz, pn, sz, sc, hW1, hW5]); refine re ?_
    refine r1 14 ?_; (refine kt hst ta44 rfl rfl ?_; clear hst; intro w hst); (try simp only [pz, pn, sz, sc, hW1, hW5]); refine re ?_
    refine r0 15 ?_; simp only [pz, pn, sz, sc, hW1, hW5]
    refine rd_ ?_
    rotate_left 1
    (refine ka 12 hst tz44 rfl rfl ?_; clear hst; intro b12 w hb12 hst); (try simp only [pz, pn, sz, sc, hW1, hW5]); refine re ?_
    refine r1 9 ?_; (refine kf gf104 hst (hadd) rfl rfl rfl rfl ?_; clear hst; intro w hst); (try simp only [pz, pn, sz, sc, hW1, hW5]); refine re ?_
    refine r0 10 ?_; simp only [pz, pn, sz, sc, hW1, hW5]
    refine r0 11 ?_; simp only [pz, pn, sz, sc, hW1, hW5]
    refine r0 12 ?_; simp only [pz, pn, sz, sc, hW1, hW5]
    refine r1 14 ?_; (refine kt hst ta44 rfl rfl ?_; clear hst; intro w hst); (try simp only [pz, pn, sz, sc, hW1, hW5]); refine re ?_
    refine r0 15 ?_; simp only [pz, pn, sz, sc, hW1, hW5]
    refine rd_ ?_
    rotate_right 1
    rotate_left 2
    (refine ka 12 hst tz44 rfl rfl ?_; clear hst; intro b12 w hb12 hst); (try simp only [pz, pn, sz, sc, hW1, hW5]); refine re ?_
    refine r1 8 ?_; (refine kf gf48 hst (hshl) rfl rfl rfl rfl ?_; clear hst; intro w hst); (try simp only [pz, pn, sz, sc, hW1, hW5]); refine re ?_
    refine r1 9 ?_; (refine kf gf104 hst (hadd) rfl rfl rfl rfl ?_; clear hst; intro w hst); (try simp only [pz, pn, sz, sc, hW1, hW5]); refine re ?_
    refine r0 10 ?_; simp only [pz, pn, sz, sc, hW1, hW5]
    refine r0 11 ?_; simp only [pz, pn, sz, sc, hW1, hW5]
    refine r0 12 ?_; simp only [pz, pn, sz, sc, hW1, hW5]
    refine r1 14 ?_; (refine kt hst ta44 rfl rfl ?_; clear hst; intro w hst); (try simp only [pz, pn, sz, sc, hW1, hW5]); refine re ?_
    refine r0 15 ?_; simp only [pz, pn, sz, sc, hW1, hW5]
    refine rd_ ?_
    rotate_right 2
    rotate_left 3
    (refine ka 12 hst tz44 rfl rfl ?_; clear hst; intro b12 w hb12 hst); (try simp only [pz, pn, sz, sc, hW1, hW5]); refine re ?_
    refine r1 4 ?_; (refine kg gf131 hst (fun w hst => hwo _ w (by rw [← h1'.out]; exact hst.own _ _ (by repeat (first | exact List.Mem.head _ | refine List.Mem.tail _ ?_)))) rfl rfl rfl rfl ?_; clear hst; intro w hst); (try simp only [pz, pn, sz, sc, hW1, hW5]); refine re ?_
    refine r1 8 ?_; (refine kf gf48 hst (hshl) rfl rfl rfl rfl ?_; clear hst; intro w hst); (try simp only [pz, pn, sz, sc, hW1, hW5]); refine re ?_
    refine r1 9 ?_; (refine kf gf104 hst (hadd) rfl rfl rfl rfl ?_; clear hst; intro w hst); (try simp only [pz, pn, sz, sc, hW1, hW5]); refine re ?_
    refine r0 10 ?_; simp only [pz, pn, sz, sc, hW1, hW5]
    refine r0 11 ?_; simp only [pz, pn, sz, sc, hW1, hW5]
    refine r0 12 ?_; simp only [pz, pn, sz, sc, hW1, hW5]
    refine r1 14 ?_; (refine kt hst ta44 rfl rfl ?_; clear hst; intro w hst); (try simp only [pz, pn, sz, sc, hW1, hW5]); refine re ?_
    refine r0 15 ?_; simp only [pz, pn, sz, sc, hW1, hW5]
    refine rd_ ?_
    rotate_right 3
    rotate_left 4
    (refine ka 12 hst tz44 rfl rfl ?_; clear hst; intro b12 w hb12 hst); (try simp only [pz, pn, sz, sc, hW1, hW5]); refine re ?_
    refine r1 3 ?_; (refine wl_slice1 (o := ⟨some 46, _, _, _, _, _⟩) hst ts123 te22 rfl rfl (by (simp only [eval_lit, eval_k, eval_f, eval_g, List.getD_cons_succ, List.getD_cons_zero]) <;> rfl) (by rfl) ?_; clear hst; intro b46 w hb46 hst); (try simp only [pz, pn, sz, sc, hW1, hW5]); refine re ?_
    refine r1 4 ?_; (refine kg gf131 hst (fun w hst => hwo _ w (by rw [← h1'.out]; exact hst.own _ _ (by repeat (first | exact List.Mem.head _ | refine List.Mem.tail _ ?_)))) rfl rfl rfl rfl ?_; clear hst; intro w hst); (try simp only [pz, pn, sz, sc, hW1, hW5]); refine re ?_
    refine r1 8 ?_; (refine kf gf48 hst (hshl) rfl rfl rfl rfl ?_; clear hst; intro w hst); (try simp only [pz, pn, sz, sc, hW1, hW5]); refine re ?_
    refine r1 9 ?_; (refine kf gf104 hst (hadd) rfl rfl rfl rfl ?_; clear hst; intro w hst); (try simp only [pz, pn, sz, sc, hW1, hW5]); refine re ?_
    refine r0 10 ?_; simp only [pz, pn, sz, sc, hW1, hW5]
    refine r0 11 ?_; simp only [pz, pn, sz, sc, hW1, hW5]
    refine r0 12 ?_; simp only [pz, pn, sz, sc, hW1, hW5]
    refine r1 14 ?_; (refine kt hst ta44 rfl rfl ?_; clear hst; intro w hst); (try simp only [pz, pn, sz, sc, hW1, hW5]); refine re ?_
    refine r0 15 ?_; simp only [pz, pn, sz, sc, hW1, hW5]
    refine rd_ ?_
    rotate_right 4
    all_goals
      go_wp2_with fail
      refine wp_region_T 9  hst (by kernel_rfl) ?_; clear hst; intro w hst; (try simp only [List.length_cons, List.length_nil, Nat.reduceAdd, Array.replicate_succ, Array.replicate_zero, List.push_toArray, List.nil_append, List.cons_append])
      refine r0 1 ?_; simp only [pz, pn, sz, sc, hW2]
      refine rl 0 rfl ?_ (by first | exact ylA ta44 | exact ylM ta44); simp only [pz, pn, sz, sc, hW2]
      refine rl 2 rfl ?_ (ylC tc3); simp only [pz, pn, sz, sc, hW2]
      refine r0 3 ?_; simp only [pz, pn, sz, sc, hW2]
      refine r1 4 ?_; (refine kf gf127 hst (hpw) rfl rfl rfl rfl ?_; clear hst; intro w hst); (try simp only [pz, pn, sz, sc, hW2]); refine re ?_
      refine r1 5 ?_; (refine kf gf104 hst (hadd2) rfl rfl rfl rfl ?_; clear hst; intro w hst); (try simp only [pz, pn, sz, sc, hW2]); refine re ?_
      refine r0 6 ?_; simp only [pz, pn, sz, sc, hW2]
      refine r0 7 ?_; simp only [pz, pn, sz, sc, hW2]
      refine r0 8 ?_; simp only [pz, pn, sz, sc, hW2]
      refine r1 9 ?_; (refine kt hst ta44 rfl rfl ?_; clear hst; intro w hst); (try simp only [pz, pn, sz, sc, hW2]); refine re ?_
      refine rd_ ?_
      all_goals
        go_wp2_with ((first | (refine kf gf139 hst (hlow2) rfl rfl rfl rfl ?_; clear hst; intro w hst) | (refine kl hst ta44 rfl ?_) | (refine kt hst ta24 rfl rfl ?_; clear hst; intro w hst)); try simp only [pz, pn, sz, sc])
        refine bp_ct rfl rfl (la hst ta24) (by rfl) ⟨?_, hst.keeps⟩
        rfl

theorem mkW_enc (f : Nat) (ng : Bool) (j s : Nat) : mkW f ng (j + s / 2 ^ (fP f - 1)) (s % 2 ^ (fP f - 1)) = encW f ng j s := by
  unfold mkW encW wEnc
  have := Nat.div_add_mod s (2 ^ (fP f - 1))
  rw [Nat.mul_comm] at this
  rw [Nat.add_mul]
  omega

set_option maxHeartbeats 4000000 in
theorem pack_joined (f : Nat) (h1 : 1 ≤ f) (h4 : f ≤ 4) (ng : Bool) (j s : Nat) (hs : s ≤ 2 ^ fP f) (hj : j + s / 2 ^ (fP f - 1) ≤ 2 * fE f + 1) (w0 : World) (hF : FmtIn w0) :
    GivesAt Tryz.prog 98 #[.int .i64 f, .bool ng, .int .i64 j, W s] (Wd (encW f ng j s)) w0 := by
  have hst := St.start [] w0
  have hk := Lib.hid (fun w (k : Keeps [] w0 w) => hF.keep k (by simp))
  have hof := fun w h => format_Of f h1 h4 w h
  have hP := fP_in f
  have hE := fE_in f
  have hsM : s < M := Nat.lt_of_le_of_lt hs (small_M2 _ (by omega))
  have hmk := fun w h => class_Make f h1 h4 ng (j + s / 2 ^ (fP f - 1)) (s % 2 ^ (fP f - 1)) hj (Nat.mod_lt _ (Nat.pow_pos (by omega))) w h
  rw [mkW_enc] at hmk
  have hle : s / 2 ^ (fP f - 1) * 2 ^ (fP f - 1) ≤ s := Nat.div_mul_le_self _ _
  have hshr := wide_Shr s (fP f - 1 : Nat) hsM
  rw [clampN_nat _ (by omega)] at hshr
  have hshl := wide_Shl (s / 2 ^ (fP f - 1)) (fP f - 1 : Nat) (Nat.lt_of_le_of_lt (Nat.div_le_self _ _) hsM)
  rw [clampN_nat _ (by omega), Nat.mod_eq_of_lt (Nat.lt_of_le_of_lt hle hsM)] at hshl
  have hsub := wide_Sub s (s / 2 ^ (fP f - 1) * 2 ^ (fP f - 1)) hsM (Nat.lt_of_le_of_lt hle hsM)
  have hlow : (s + M - s / 2 ^ (fP f - 1) * 2 ^ (fP f - 1)) % M = s % 2 ^ (fP f - 1) := by
    have hd := Nat.div_add_mod s (2 ^ (fP f - 1))
    rw [Nat.mul_comm] at hd
    rw [show s + M - s / 2 ^ (fP f - 1) * 2 ^ (fP f - 1) = s % 2 ^ (fP f - 1) + M by omega, Nat.add_mod_right, Nat.mod_eq_of_lt (Nat.lt_of_le_of_lt (Nat.mod_le _ _) hsM)]
  rw [hlow] at hsub
  rw [show ((fP f - 1 : Nat) : Int) = (fP f : Int) - 1 by omega] at hshr hshl
  have hcl : s / 2 ^ (fP f - 1) < 65536 := by omega
  have hlb : lb (s / 2 ^ (fP f - 1)) 0 = s / 2 ^ (fP f - 1) := by rw [lb_zero, Nat.mod_eq_of_lt (by rw [B_val]; omega)]
  have hjl : j < 65536 := by omega
  rw [Int.natCast_add] at hmk
  have hW1 : IntKind.i64.wrap ((fP f : Int) - 1) = (fP f : Int) - 1 := by rw [IntKind.wrap_i64]; omega
  have z1 := fmC_size f
  have z2 := fmC_one f
  have g1 : (fmC f)[0 + 1]? = some (.int .i64 (fP f : Nat)) := rfl
  clear hF hs hj hle hlow hsM
  generalize s / 2 ^ (fP f - 1) * 2 ^ (fP f - 1) = s2 at *
  generalize s / 2 ^ (fP f - 1) = c at *
  generalize s % 2 ^ (fP f - 1) = fr at *
  generalize encW f ng j s = res at *
  generalize fmC f = cs at *
  generalize fP f = p at *
  go_enter Tryz.func98, Tryz.ntmps98
  go_wp2_with ((first | (refine kg gf70 hst (fun w hst => hof w (hk.out w hst.keeps)) rfl rfl rfl rfl ?_; clear hst; intro w hst) | (refine kf gf87 hst (hshr) rfl rfl rfl rfl ?_; clear hst; intro w hst) | (refine kb 7 hst rfl rfl ?_; clear hst; intro b7 w hb7 hst) | (refine ka 8 hst tz24 rfl rfl ?_; clear hst; intro b8 w hb8 hst) | (refine ka 9 hst tz128 rfl rfl ?_; clear hst; intro b9 w hb9 hst) | (refine kt hst ta128 rfl rfl ?_; clear hst; intro w hst) | (refine kl hst ta44 rfl ?_) | (refine kc hst tc3 rfl ?_) | (refine ka 11 hst tz44 rfl rfl ?_; clear hst; intro b11 w hb11 hst) | (refine kt hst ta44 rfl rfl ?_; clear hst; intro w hst)); try simp only [pz, pn, sz, sc])
  refine wp_region_T 11  hst (by kernel_rfl) ?_; clear hst; intro w hst; (try simp only [List.length_cons, List.length_nil, Nat.reduceAdd, Array.replicate_succ, Array.replicate_zero, List.push_toArray, List.nil_append, List.cons_append])
  refine r0 2 ?_; simp only [pz, pn, sz, sc, hW1]
  refine rl 0 rfl ?_ (by first | exact ylA ta44 | exact ylM ta44); simp only [pz, pn, sz, sc, hW1]
  refine rl 1 rfl ?_ (by first | exact ylA ta44 | exact ylM ta44); simp only [pz, pn, sz, sc, hW1]
  refine rl 3 rfl ?_ (ylC tc3); simp only [pz, pn, sz, sc, hW1]
  refine r0 4 ?_; simp only [pz, pn, sz, sc, hW1]
  refine r2 5 10 ?_ ?_
  (refine kf gf48 hst (hshl) rfl rfl rfl rfl ?_; clear hst; intro w hst); (try simp only [pz, pn, sz, sc, hW1]); refine re ?_
  refine r2 6 10 ?_ ?_
  (refine kf gf122 hst (hsub) rfl rfl rfl rfl ?_; clear hst; intro w hst); (try simp only [pz, pn, sz, sc, hW1]); refine re ?_
  refine r0 7 ?_; simp only [pz, pn, sz, sc, hW1]
  refine r0 8 ?_; simp only [pz, pn, sz, sc, hW1]
  refine r0 9 ?_; simp only [pz, pn, sz, sc, hW1]
  refine r1 10 ?_; (refine ka 13 hst tz44 rfl rfl ?_; clear hst; intro b13 w hb13 hst); (try simp only [pz, pn, sz, sc, hW1]); refine re ?_
  refine r1 11 ?_; (refine kt hst ta44 rfl rfl ?_; clear hst; intro w hst); (try simp only [pz, pn, sz, sc, hW1]); refine re ?_
  refine r0 12 ?_; simp only [pz, pn, sz, sc, hW1]
  refine rd_ ?_
  rotate_left 1
  (refine ka 13 hst tz44 rfl rfl ?_; clear hst; intro b13 w hb13 hst); (try simp only [pz, pn, sz, sc, hW1]); refine re ?_
  refine r1 6 ?_; (refine kf gf122 hst (hsub) rfl rfl rfl rfl ?_; clear hst; intro w hst); (try simp only [pz, pn, sz, sc, hW1]); refine re ?_
  refine r0 7 ?_; simp only [pz, pn, sz, sc, hW1]
  refine r0 8 ?_; simp only [pz, pn, sz, sc, hW1]
  refine r0 9 ?_; simp only [pz, pn, sz, sc, hW1]
  refine r1 11 ?_; (refine kt hst ta44 rfl rfl ?_; clear hst; intro w hst); (try simp only [pz, pn, sz, sc, hW1]); refine re ?_
  refine r0 12 ?_; simp only [pz, pn, sz, sc, hW1]
  refine rd_ ?_
  rotate_right 1
  rotate_left 2
  (refine ka 13 hst tz44 rfl rfl ?_; clear hst; intro b13 w hb13 hst); (try simp only [pz, pn, sz, sc, hW1]); refine re ?_
  refine r1 5 ?_; (refine kf gf48 hst (hshl) rfl rfl rfl rfl ?_; clear hst; intro w hst); (try simp only [pz, pn, sz, sc, hW1]); refine re ?_
  refine r1 6 ?_; (refine kf gf122 hst (hsub) rfl rfl rfl rfl ?_; clear hst; intro w hst); (try simp only [pz, pn, sz, sc, hW1]); refine re ?_
  refine r0 7 ?_; simp only [pz, pn, sz, sc, hW1]
  refine r0 8 ?_; simp only [pz, pn, sz, sc, hW1]
  refine r0 9 ?_; simp only [pz, pn, sz, sc, hW1]
  refine r1 11 ?_; (refine kt hst ta44 rfl rfl ?_; clear hst; intro w hst); (try simp only [pz, pn, sz, sc, hW1]); refine re ?_
  refine r0 12 ?_; simp only [pz, pn, sz, sc, hW1]
  refine rd_ ?_
  rotate_right 2
  all_goals
    go_wp2_with ((first | (refine kg gf123 hst (fun w hst => hmk w (hk.out w hst.keeps)) rfl rfl rfl rfl ?_; clear hst; intro w hst) | (refine kl hst ta44 rfl ?_) | (refine kc hst tc22 rfl ?_) | (refine ka 15 hst tz24 rfl rfl ?_; clear hst; intro b15 w hb15 hst) | (refine kt hst ta24 rfl rfl ?_; clear hst; intro w hst) | (refine kl hst ta24 rfl ?_)); try simp only [pz, pn, sz, sc])
    refine bp_c rfl rfl (la hst ta24) ⟨?_, hst.keeps⟩
    rfl

end Go.Proofs.YtefpoconpeggpaaGreatDoor.Rd

namespace Go.Proofs.YtefpoconpeggpaaGreatDoor.Rd
open Go Go.RowKit
set_option linter.unusedVariables false
set_option linter.unusedSimpArgs false
set_option maxRecDepth 100000

theorem M_bl {n : Nat} (h : bl n ≤ 511) : n < M := by
  have h1 := (bl_spec n).1
  have h2 : 2 ^ bl n < M := by
    have key : ∀ t, M = 2 ^ t → bl n < t → 2 ^ bl n < M := fun t e h => by rw [e]; exact Nat.pow_lt_pow_right (by omega) h
    exact key (64 * 8) (by rw [M_eq, show B = 2 ^ 64 from rfl, ← Nat.pow_mul]) (by omega)
  omega

set_option maxHeartbeats 1000000 in
theorem pack_Right (p : Nat) (hp1 : 1 ≤ p) (hp2 : p ≤ 500) (ng : Bool) (e : Int) (n : Nat) (he1 : -1048576 ≤ e) (he2 : e ≤ 1048576) (hn : bl n ≤ 511) (more : Bool) (hm : more = true → p < bl n) : Gives Tryz.prog 93 #[.int .i64 p, .agg (nbC ng e n), .bool more] (.bool true) := by
  intro w0
  have hst := St.start [] w0
  have hur := unpack_Right ng e n he1 he2
  have hlen := wide_Len n (M_bl hn)
  have y1 := nbC_size ng e n
  have y2 := nbC_one ng e n
  have hpt : Part (nbC ng e n) (wc 8 n) (nbC ng e n) (wc 8 n) 2 := part1 2 _ _ _ rfl rfl
  generalize nbC ng e n = cs at *
  generalize bl n = k at *
  have p1 : (1 : Int) ≤ (p : Int) := by omega
  have p5 : (p : Int) ≤ 500 := by omega
  have k5 : (k : Int) ≤ 511 := by omega
  cases more
  · clear hm
    go_enter Tryz.func93, Tryz.ntmps93
    go_wp2_with ((first | (refine klm hst ta44 rfl ?_ (hc := hpt)) | (refine kf gf47 hst (hlen) rfl rfl rfl rfl ?_; clear hst; intro w hst) | (refine kf gf85 hst (hur) rfl rfl rfl rfl ?_; clear hst; intro w hst) | (refine wl_guard (by rfl) ?_) | (refine kb 4 hst rfl rfl ?_; clear hst; intro b4 w hb4 hst) | (refine kl hst ta46 rfl ?_)); try simp only [pz, pn, sz, sc])
    refine bp_t rfl rfl (by rfl) ⟨?_, hst.keeps⟩
    rfl
  · have hlt : (p : Int) < (k : Int) := by have := hm rfl; omega
    have hlt' : p < k := hm rfl
    clear hm
    go_enter Tryz.func93, Tryz.ntmps93
    go_wp2_with ((first | (refine klm hst ta44 rfl ?_ (hc := hpt)) | (refine kf gf47 hst (hlen) rfl rfl rfl rfl ?_; clear hst; intro w hst) | (refine kf gf85 hst (hur) rfl rfl rfl rfl ?_; clear hst; intro w hst) | (refine wl_guard (by rfl) ?_) | (refine kb 4 hst rfl rfl ?_; clear hst; intro b4 w hb4 hst) | (refine kl hst ta46 rfl ?_)); try simp only [pz, pn, sz, sc])
    refine bp_t rfl rfl (by rfl) ⟨?_, hst.keeps⟩
    rfl

set_option maxHeartbeats 1000000 in
theorem pack_at_cut (pl : Int) (m : Nat) (m1 : 1 ≤ m) (m5 : m ≤ 5) (ng : Bool) (e : Int) (n b : Nat) (hn : n < M) (hb1 : 1 ≤ b) (hb2 : b < 512) (hpl : pl - e = (b : Int)) (he1 : -1048576 ≤ e) (he2 : e ≤ 1048576) (more : Bool) :
    Gives Tryz.prog 97 #[.int .i64 pl, .int .i64 m, .agg (nbC ng e n), .bool more] (.tuple #[W (cutN n b more m ng), .bool (decide (restN n b more ≠ 0))]) := by
  intro w0
  have hst := St.start [] w0
  have hcut := mode_Cut n b hn hb1 hb2 more m m1 m5 ng
  have y1 := nbC_size ng e n
  have y2 := nbC_one ng e n
  have g0 := nbC_0 ng e n
  have g1 := nbC_1 ng e n
  have hpt : Part (nbC ng e n) (wc 8 n) (nbC ng e n) (wc 8 n) 2 := part1 2 _ _ _ rfl rfl
  have b0 : ¬ (b : Int) ≤ 0 := by omega
  have hl1 : pl ≤ 2000000 := by omega
  have hl2 : -2000000 ≤ pl := by omega
  have hbl : (b : Int) < 512 := by omega
  generalize nbC ng e n = cs at *
  generalize cutN n b more m ng = x at *
  generalize decide (restN n b more ≠ 0) = ix at *
  clear hn hb1 hb2 m1 m5
  go_enter Tryz.func97, Tryz.ntmps97
  go_wp2_with ((first | (refine klm hst ta44 rfl ?_ (hc := hpt)) | (refine kf gf121 hst (hcut) rfl rfl rfl rfl ?_; clear hst; intro w hst) | (refine kb 6 hst rfl rfl ?_; clear hst; intro b6 w hb6 hst) | (refine ka 8 hst tz44 rfl rfl ?_; clear hst; intro b8 w hb8 hst) | (refine kc hst tc3 rfl ?_) | (refine kt hst ta44 rfl rfl ?_; clear hst; intro w hst) | (refine kc hst tc4 rfl ?_)); try simp only [pz, pn, sz, sc])
  refine bp_ct rfl rfl (la hst ta44) (by rfl) ⟨?_, hst.keeps⟩
  rfl

set_option maxHeartbeats 1000000 in
theorem pack_digits_cut (p : Nat) (hp1 : 1 ≤ p) (hp2 : p ≤ 500) (m : Nat) (m1 : 1 ≤ m) (m5 : m ≤ 5) (ng : Bool) (e : Int) (n : Nat) (he1 : -1048576 ≤ e) (he2 : e ≤ 1048576) (hn : bl n ≤ 511) (hb : p < bl n) (more : Bool) :
    Gives Tryz.prog 95 #[.int .i64 p, .int .i64 m, .agg (nbC ng e n), .bool more] (.tuple #[W (cutN n (bl n - p) more m ng), .int .i64 (e + (bl n - p : Nat)), .bool (decide (restN n (bl n - p) more ≠ 0))]) := by
  intro w0
  have hst := St.start [] w0
  have hnM := M_bl hn
  have hlen := wide_Len n hnM
  obtain ⟨pl, hpl⟩ : ∃ pl : Int, pl = e + (bl n - p : Nat) := ⟨_, rfl⟩
  have hat := pack_at_cut pl m m1 m5 ng e n (bl n - p) hnM (by omega) (by omega) (by omega) he1 he2 more
  rw [← hpl]
  have W1 : IntKind.i64.wrap (e + (bl n : Int)) = e + (bl n : Int) := by rw [IntKind.wrap_i64]; omega
  have W2 : IntKind.i64.wrap (e + (bl n : Int) - 1) = e + (bl n : Int) - 1 := by rw [IntKind.wrap_i64]; omega
  have E1 : e + (bl n : Int) - 1 - (p : Int) + 1 = pl := by omega
  have E2 : ¬ pl ≤ e := by omega
  have hl1 : pl ≤ 2000000 := by omega
  have hl2 : -2000000 ≤ pl := by omega
  have y1 : (#[Value.bool ng, .int .i64 e] ++ wc 8 n).size = 10 := by simp
  have y2 : OneC (#[Value.bool ng, .int .i64 e] ++ wc 8 n) := nbC_one ng e n
  have hk1 : bl n ≤ 511 := hn
  clear hnM hn
  unfold nbC at hat ⊢
  generalize cutN n (bl n - p) more m ng = x at *
  generalize decide (restN n (bl n - p) more ≠ 0) = ix at *
  clear hpl hb
  generalize bl n = k at *
  go_enter Tryz.func95, Tryz.ntmps95
  go_wp2_with ((first | (refine kb 6 hst rfl rfl ?_; clear hst; intro b6 w hb6 hst) | (refine ka 8 hst tz44 rfl rfl ?_; clear hst; intro b8 w hb8 hst)); try simp only [pz, pn, sz, sc])
  refine wp_region_T 8  hst (by kernel_rfl) ?_; clear hst; intro w hst; (try simp only [List.length_cons, List.length_nil, Nat.reduceAdd, Array.replicate_succ, Array.replicate_zero, List.push_toArray, List.nil_append, List.cons_append])
  refine r0 0 ?_; simp only [pz, pn, sz, sc, W1, W2]
  refine r0 2 ?_; simp only [pz, pn, sz, sc, W1, W2]
  refine rl 1 rfl ?_ (ylC tc3); simp only [pz, pn, sz, sc, W1, W2]
  refine rl 3 rfl ?_ (by first | exact ylA ta44 | exact ylM ta44); simp only [pz, pn, sz, sc, W1, W2]
  refine r1 4 ?_; (refine kf gf47 hst (hlen) rfl rfl rfl rfl ?_; clear hst; intro w hst); (try simp only [pz, pn, sz, sc, W1, W2]); refine re ?_
  refine r0 5 ?_; simp only [pz, pn, sz, sc, W1, W2]
  refine r0 6 ?_; simp only [pz, pn, sz, sc, W1, W2]
  refine r0 7 ?_; simp only [pz, pn, sz, sc, W1, W2]
  refine rd_ ?_
  all_goals
    go_wp2_with ((first | (refine kf gf97 hst (hat) rfl rfl rfl rfl ?_; clear hst; intro w hst) | (refine kc hst tc3 rfl ?_) | (refine kl hst ta44 rfl ?_) | (refine kt hst ta44 rfl rfl ?_; clear hst; intro w hst) | (refine kl hst ta46 rfl ?_) | (refine ka 13 hst tz44 rfl rfl ?_; clear hst; intro b13 w hb13 hst)); try simp only [pz, pn, sz, sc])
    refine bp_ctt rfl rfl (la hst ta44) (by rfl) (by rfl) ⟨?_, hst.keeps⟩
    rfl

end Go.Proofs.YtefpoconpeggpaaGreatDoor.Rd

namespace Go.Proofs.YtefpoconpeggpaaGreatDoor.Rd
open Go Go.RowKit
set_option linter.unusedVariables false
set_option linter.unusedSimpArgs false
set_option maxRecDepth 100000

set_option maxHeartbeats 1000000 in
theorem pack_at_all (pl : Int) (m : Nat) (m1 : 1 ≤ m) (m5 : m ≤ 5) (ng : Bool) (e : Int) (n : Nat) (hn : n < M) (he1 : -1048576 ≤ e) (he2 : e ≤ 1048576) (hl1 : -4000000 ≤ pl) (hl2 : pl ≤ 4000000) (hlt : pl - e ≤ 0 → n * 2 ^ (e - pl).toNat < M) (more : Bool) :
    Gives Tryz.prog 97 #[.int .i64 pl, .int .i64 m, .agg (nbC ng e n), .bool more] (.tuple #[W (rAt pl m ng e n more).1, .bool (rAt pl m ng e n more).2]) := by
  intro w0
  have hst := St.start [] w0
  have y1 := nbC_size ng e n
  have y2 := nbC_one ng e n
  have g0 := nbC_0 ng e n
  have g1 := nbC_1 ng e n
  have hpt : Part (nbC ng e n) (wc 8 n) (nbC ng e n) (wc 8 n) 2 := part1 2 _ _ _ rfl rfl
  have W1 : IntKind.i64.wrap (pl - e) = pl - e := by rw [IntKind.wrap_i64]; omega
  unfold rAt
  by_cases h : pl - e ≤ 0
  · rw [if_pos h]
    have hshl := wide_Shl n (e - pl) hn
    have ec : n * 2 ^ clampN (e - pl) % M = n * 2 ^ (e - pl).toNat := by
      by_cases h5 : e - pl ≤ 512
      · have : clampN (e - pl) = (e - pl).toNat := by unfold clampN; rw [if_neg (by omega), if_neg (by omega)]
        rw [this, Nat.mod_eq_of_lt (hlt h)]
      · have hz : n = 0 := by
          rcases Nat.eq_zero_or_pos n with h0 | h0
          · exact h0
          · exfalso
            have a := hlt h
            have b := M_le_pow (n := (e - pl).toNat) (by omega)
            have c : 1 * 2 ^ (e - pl).toNat ≤ n * 2 ^ (e - pl).toNat := Nat.mul_le_mul_right _ h0
            omega
        rw [hz, Nat.zero_mul, Nat.zero_mul, Nat.zero_mod]
    rw [ec] at hshl
    generalize n * 2 ^ (e - pl).toNat = x at *
    obtain ⟨d, hd⟩ : ∃ d : Int, d = pl - e := ⟨_, rfl⟩
    have hd1 : -d = e - pl := by omega
    rw [← hd] at W1 h
    have E1 : pl - e = d := hd.symm
    rw [← hd1] at hshl
    have W2 : IntKind.i64.wrap (-d) = -d := by rw [IntKind.wrap_i64]; omega
    have hdl : -10000000 ≤ d := by omega
    clear hn hlt ec m1 m5 hd1 hd
    generalize nbC ng e n = cs at *
    go_enter Tryz.func97, Tryz.ntmps97
    go_wp2_with ((first | (refine klm hst ta44 rfl ?_ (hc := hpt)) | (refine kf gf48 hst (hshl) rfl rfl rfl rfl ?_; clear hst; intro w hst) | (refine kb 6 hst rfl rfl ?_; clear hst; intro b6 w hb6 hst) | (refine ka 8 hst tz44 rfl rfl ?_; clear hst; intro b8 w hb8 hst) | (refine kc hst tc3 rfl ?_) | (refine kt hst ta44 rfl rfl ?_; clear hst; intro w hst)); try simp only [pz, pn, sz, sc])
    refine bp_ct rfl rfl (la hst ta44) (by rfl) ⟨?_, hst.keeps⟩
    rfl
  · rw [if_neg h]
    obtain ⟨b, hb⟩ : ∃ b : Nat, pl - e = (b : Int) := ⟨(pl - e).toNat, by omega⟩
    rw [show (pl - e).toNat = b by omega]
    have hcut := mode_Cut_all n b hn (by omega) (by omega) more m m1 m5 ng
    have b0 : ¬ (b : Int) ≤ 0 := by omega
    have hbl : (b : Int) ≤ 8000000 := by omega
    generalize nbC ng e n = cs at *
    generalize cutN n b more m ng = x at *
    generalize decide (restN n b more ≠ 0) = ix at *
    clear hn hlt m1 m5 h
    go_enter Tryz.func97, Tryz.ntmps97
    go_wp2_with ((first | (refine klm hst ta44 rfl ?_ (hc := hpt)) | (refine kf gf121 hst (hcut) rfl rfl rfl rfl ?_; clear hst; intro w hst) | (refine kb 6 hst rfl rfl ?_; clear hst; intro b6 w hb6 hst) | (refine ka 8 hst tz44 rfl rfl ?_; clear hst; intro b8 w hb8 hst) | (refine kc hst tc3 rfl ?_) | (refine kt hst ta44 rfl rfl ?_; clear hst; intro w hst) | (refine kc hst tc4 rfl ?_)); try simp only [pz, pn, sz, sc])
    refine bp_ct rfl rfl (la hst ta44) (by rfl) ⟨?_, hst.keeps⟩
    rfl

set_option maxHeartbeats 1000000 in
theorem pack_digits_all (p : Nat) (hp1 : 1 ≤ p) (hp2 : p ≤ 500) (m : Nat) (m1 : 1 ≤ m) (m5 : m ≤ 5) (ng : Bool) (e : Int) (n : Nat) (he1 : -1048576 ≤ e) (he2 : e ≤ 1048576) (hn : bl n ≤ 511) (more : Bool) :
    Gives Tryz.prog 95 #[.int .i64 p, .int .i64 m, .agg (nbC ng e n), .bool more] (.tuple #[W (rDig p m ng e n more).1, .int .i64 (rDig p m ng e n more).2.1, .bool (rDig p m ng e n more).2.2]) := by
  by_cases hb : bl n ≤ p
  · unfold rDig
    rw [if_pos hb]
    intro w0
    have hst := St.start [] w0
    have hlen := wide_Len n (M_bl hn)
    have W1 : IntKind.i64.wrap (e + (bl n : Int)) = e + (bl n : Int) := by rw [IntKind.wrap_i64]; omega
    have W2 : IntKind.i64.wrap (e + (bl n : Int) - 1) = e + (bl n : Int) - 1 := by rw [IntKind.wrap_i64]; omega
    have E2 : e + (bl n : Int) - 1 - (p : Int) + 1 ≤ e := by omega
    have y1 : (#[Value.bool ng, .int .i64 e] ++ wc 8 n).size = 10 := by simp
    have y2 : OneC (#[Value.bool ng, .int .i64 e] ++ wc 8 n) := nbC_one ng e n
    clear hb m1 m5
    unfold nbC
    generalize bl n = k at *
    go_enter Tryz.func95, Tryz.ntmps95
    go_wp2_with ((first | (refine kb 6 hst rfl rfl ?_; clear hst; intro b6 w hb6 hst) | (refine ka 8 hst tz44 rfl rfl ?_; clear hst; intro b8 w hb8 hst)); try simp only [pz, pn, sz, sc])
    refine wp_region_T 8  hst (by kernel_rfl) ?_; clear hst; intro w hst; (try simp only [List.length_cons, List.length_nil, Nat.reduceAdd, Array.replicate_succ, Array.replicate_zero, List.push_toArray, List.nil_append, List.cons_append])
    refine r0 0 ?_; simp only [pz, pn, sz, sc, W1, W2]
    refine r0 2 ?_; simp only [pz, pn, sz, sc, W1, W2]
    refine rl 1 rfl ?_ (ylC tc3); simp only [pz, pn, sz, sc, W1, W2]
    refine rl 3 rfl ?_ (by first | exact ylA ta44 | exact ylM ta44); simp only [pz, pn, sz, sc, W1, W2]
    refine r1 4 ?_; (refine kf gf47 hst (hlen) rfl rfl rfl rfl ?_; clear hst; intro w hst); (try simp only [pz, pn, sz, sc, W1, W2]); refine re ?_
    refine r0 5 ?_; simp only [pz, pn, sz, sc, W1, W2]
    refine r0 6 ?_; simp only [pz, pn, sz, sc, W1, W2]
    refine r0 7 ?_; simp only [pz, pn, sz, sc, W1, W2]
    refine rd_ ?_
    all_goals
      go_wp2_with ((first | (refine kc hst tc3 rfl ?_)); try simp only [pz, pn, sz, sc])
      refine wp_region_TV 8 [(b6, .cells (#[Value.bool ng, .int .i64 e] ++ wc 8 n) 46)] hst (by kernel_rfl) ?_; clear hst; intro w hst; (try simp only [List.length_cons, List.length_nil, Nat.reduceAdd, Array.replicate_succ, Array.replicate_zero, List.push_toArray, List.nil_append, List.cons_append])
      refine r0 0 ?_; simp only [pz, pn, sz, sc]
      refine r0 2 ?_; simp only [pz, pn, sz, sc]
      refine r0 4 ?_; simp only [pz, pn, sz, sc]
      refine rl 1 rfl ?_ (by first | exact ylA ta44 | exact ylM ta44); simp only [pz, pn, sz, sc]
      refine rl 3 rfl ?_ (ylC tc3); simp only [pz, pn, sz, sc]
      refine r1 5 ?_; (refine kt hst ta44 rfl rfl ?_; clear hst; intro w hst); (try simp only [pz, pn, sz, sc]); refine re ?_
      refine r0 6 ?_; simp only [pz, pn, sz, sc]
      refine r0 7 ?_; simp only [pz, pn, sz, sc]
      refine rd_ ?_
      all_goals
        go_wp2_with fail
        refine bp_ctt rfl rfl (la hst ta44) (by rfl) (by rfl) ⟨?_, hst.keeps⟩
        rfl
  · unfold rDig
    rw [if_neg hb]
    exact pack_digits_cut p hp1 hp2 m m1 m5 ng e n he1 he2 hn (by omega) more

end Go.Proofs.YtefpoconpeggpaaGreatDoor.Rd
