/- What format.word, Inf, Max, Nought, pack.over answer. -/
import Derived.Test.YtefpoconpeggpaaGreatDoorL28
import Derived.Test.YtefpoconpeggpaaGreatDoorL20
namespace Go.Proofs.YtefpoconpeggpaaGreatDoor.Rd
open Go Go.RowKit
set_option linter.unusedVariables false
set_option linter.unusedSimpArgs false
set_option maxRecDepth 100000

theorem bp_tc {P : Program} {fn : Func} {R : Ending → World → Prop} {a : Act} {w : World} {p q : Tmp} {T : TypeId} {v u : Value} (h : fn.results = #[.tmp q, .cell p T]) (hd : a.defers = []) (h2 : a.tmps.getD q undef = u) (h1 : LV P w a p T v) (hR : R (.returned (.tuple #[u, v])) w) : bodyPost P fn R .ret a w := by
  obtain ⟨ad, h1, h3⟩ := h1
  subst h2
  refine bodyPost_ret (v := .tuple #[a.tmps.getD q undef, v]) ?_ hd hR
  simp only [results, h]
  simp only [Array.getD_eq_getD_getElem?] at h1
  simp [Sem.run_bind, Result.andThen, h1, asAddr, h3]

set_option maxHeartbeats 4000000 in
theorem format_word (f : Nat) (h1 : 1 ≤ f) (h4 : f ≤ 4) (ng : Bool) (g : FuncId) (hg : GoF Tryz.prog g) (fld fr : Nat) (hf : fld ≤ 2 * fE f + 1) (hfr : fr < 2 ^ (fP f - 1)) (hgv : Gives Tryz.prog g #[.agg (fmC f)] (.tuple #[.int .i64 fld, W fr])) (w0 : World) (hF : FmtIn w0) :
    GivesAt Tryz.prog 116 #[.int .i64 f, .bool ng, .func (.func g) #[] #[]] (Wd (mkW f ng fld fr)) w0 := by
  have hst := St.start [] w0
  have hk := Lib.hid (fun w (k : Keeps [] w0 w) => hF.keep k (by simp))
  have hof := fun w h => format_Of f h1 h4 w h
  have hP := fP_in f
  have hE := fE_in f
  have hB := fB_in f
  have hpM : 2 ^ (fP f - 1) < M := small_M2 _ (by omega)
  have hfM : fr < M := Nat.lt_trans hfr hpM
  have hbl : bl fr ≤ fP f - 1 := bl_le.2 hfr
  have hfB : fld < B := by rw [B_val]; omega
  have hwo := of_u64 fld hfB
  have h1' := Lib.hid (wc_1 fld hfB)
  have hx : fr + fld * 2 ^ (fP f - 1) < 2 ^ (fB f - 1) := by
    have e : 2 ^ (fB f - 1) = 2 ^ fK f * 2 ^ (fP f - 1) := by rw [← Nat.pow_add, fBPK]; congr 1; omega
    rw [e, ← fE_pow]
    have : (fld + 1) * 2 ^ (fP f - 1) ≤ (2 * fE f + 2) * 2 ^ (fP f - 1) := Nat.mul_le_mul_right _ (by omega)
    rw [Nat.add_mul, Nat.one_mul] at this
    omega
  have hbM : 2 ^ (fB f - 1) < M := small_M2 _ (by omega)
  have hshl := wide_Shl fld (fP f - 1 : Nat) (Nat.lt_trans hfB (small_M2 64 (by omega)))
  rw [clampN_nat _ (by omega), Nat.mod_eq_of_lt (show fld * 2 ^ (fP f - 1) < M by omega)] at hshl
  have hadd := wide_Add fr (fld * 2 ^ (fP f - 1)) hfM (by omega)
  rw [Nat.mod_eq_of_lt (show fr + fld * 2 ^ (fP f - 1) < M by omega)] at hadd
  have hpw := wide_Power ((fB f : Int) - 1)
  rw [show pow2 ((fB f : Int) - 1) = 2 ^ (fB f - 1) by unfold pow2; rw [if_pos (by omega)]; congr 1; omega] at hpw
  have h2 : 2 ^ (fB f - 1) + 2 ^ (fB f - 1) ≤ M2 := by
    have a : 2 ^ fB f ≤ 2 ^ 128 := Nat.pow_le_pow_right (by omega) hB.2
    have b : 2 ^ fB f = 2 ^ (fB f - 1) + 2 ^ (fB f - 1) := by
      obtain ⟨p, hp⟩ : ∃ p, fB f = p + 1 := ⟨fB f - 1, by omega⟩
      rw [hp, Nat.add_sub_cancel, Nat.pow_succ]; omega
    have c : M2 = 2 ^ 128 := by decide
    omega
  have h2M : M2 ≤ M := by rw [M_eq]; exact Nat.pow_le_pow_right B_pos (by omega)
  have hadd2 := wide_Add (fr + fld * 2 ^ (fP f - 1)) (2 ^ (fB f - 1)) (by omega) hbM
  rw [Nat.mod_eq_of_lt (show fr + fld * 2 ^ (fP f - 1) + 2 ^ (fB f - 1) < M by omega)] at hadd2
  have hlow1 := wide_Low (fr + fld * 2 ^ (fP f - 1))
  rw [Nat.mod_eq_of_lt (by omega)] at hlow1
  have hlow2 := wide_Low (fr + fld * 2 ^ (fP f - 1) + 2 ^ (fB f - 1))
  rw [Nat.mod_eq_of_lt (by omega)] at hlow2
  rw [show ((fP f - 1 : Nat) : Int) = (fP f : Int) - 1 by omega] at hshl
  have hW1 : IntKind.i64.wrap ((fP f : Int) - 1) = (fP f : Int) - 1 := by rw [IntKind.wrap_i64]; omega
  have hW2 : IntKind.i64.wrap ((fB f : Int) - 1) = (fB f : Int) - 1 := by rw [IntKind.wrap_i64]; omega
  have hW3 : IntKind.i64.wrap (2 * (fE f : Int)) = 2 * (fE f : Int) := by rw [IntKind.wrap_i64]; omega
  have hW4 : IntKind.i64.wrap (2 * (fE f : Int) + 1) = 2 * (fE f : Int) + 1 := by rw [IntKind.wrap_i64]; omega
  have hW5 : IntKind.u64.wrap (fld : Int) = (fld : Int) := by rw [u64_wrap, Nat.mod_eq_of_lt hfB]
  have z1 := fmC_size f
  have z2 := fmC_one f
  have g0 : (fmC f)[0]? = some (.int .i64 (fB f : Nat)) := rfl
  have g1 : (fmC f)[0 + 1]? = some (.int .i64 (fP f : Nat)) := rfl
  have g2 : (fmC f)[0 + 2]? = some (.int .i64 (fE f : Nat)) := rfl
  unfold mkW
  clear hF hf hfr hbl hfB hx hbM h2 h2M hpM hfM
  obtain ⟨x2, hx2⟩ : ∃ x2, fr + fld * 2 ^ (fP f - 1) + 2 ^ (fB f - 1) = x2 := ⟨_, rfl⟩
  rw [hx2] at hadd2 hlow2
  generalize fr + fld * 2 ^ (fP f - 1) = x1 at *
  generalize fld * 2 ^ (fP f - 1) = x0 at *
  generalize 2 ^ (fB f - 1) = pb' at *
  generalize fmC f = cs at *
  generalize fP f = p at *
  generalize fE f = E at *
  generalize fB f = bb at *
  cases ng
  · rw [if_neg (by simp), Nat.add_zero]
    clear hx2
    go_enter Tryz.func116, Tryz.ntmps116
    go_wp2_with ((first | (refine kg gf70 hst (fun w hst => hof w (hk.out w hst.keeps)) rfl rfl rfl rfl ?_; clear hst; intro w hst) | (refine kf hg hst (hgv) rfl rfl rfl rfl ?_; clear hst; intro w hst) | (refine ka 6 hst tz24 rfl rfl ?_; clear hst; intro b6 w hb6 hst) | (refine ka 7 hst tz128 rfl rfl ?_; clear hst; intro b7 w hb7 hst) | (refine kt hst ta128 rfl rfl ?_; clear hst; intro w hst) | (refine kl hst ta128 rfl ?_) | (refine ka 10 hst tz44 rfl rfl ?_; clear hst; intro b10 w hb10 hst) | (refine kt hst ta44 rfl rfl ?_; clear hst; intro w hst)); try simp only [pz, pn, sz, sc])
    refine wp_region_T 13  hst (by kernel_rfl) ?_; clear hst; intro w hst; (try simp only [List.length_cons, List.length_nil, Nat.reduceAdd, Array.replicate_succ, Array.replicate_zero, List.push_toArray, List.nil_append, List.cons_append])
    refine r0 1 ?_; simp only [pz, pn, sz, sc, hW1, hW5]
    refine r0 2 ?_; simp only [pz, pn, sz, sc, hW1, hW5]
    refine r0 5 ?_; simp only [pz, pn, sz, sc, hW1, hW5]
    refine rl 0 rfl ?_ (by first | exact ylA ta44 | exact ylM ta44); simp only [pz, pn, sz, sc, hW1, hW5]
    refine rl 6 rfl ?_ (ylC tc3); simp only [pz, pn, sz, sc, hW1, hW5]
    refine r0 7 ?_; simp only [pz, pn, sz, sc, hW1, hW5]
    refine r1 3 ?_; (refine wl_slice1 (o := ⟨some 29, _, _, _, _, _⟩) hst ts123 te22 rfl rfl (by (simp only [eval_lit, eval_k, eval_f, eval_g, List.getD_cons_succ, List.getD_cons_zero]) <;> rfl) (by rfl) ?_; clear hst; intro b29 w hb29 hst); (try simp only [pz, pn, sz, sc, hW1, hW5]); refine re ?_
    refine r1 4 ?_; (refine kg gf131 hst (fun w hst => hwo _ w (by rw [← h1'.out]; exact hst.own _ _ (by repeat (first | exact List.Mem.head _ | refine List.Mem.tail _ ?_)))) rfl rfl rfl rfl ?_; clear hst; intro w hst); (try simp only [pz, pn, sz, sc, hW1, hW5]); refine re ?_
    refine r1 8 ?_; (refine kf gf48 hst (hshl) rfl rfl rfl rfl ?_; clear hst; intro w hst); (try simp only [pz, pn, sz, sc, hW1, hW5]); refine re ?_
    refine r1 9 ?_; (refine kf gf104 hst (hadd) rfl rfl rfl rfl ?_; clear hst; intro w hst); (try simp only [pz, pn, sz, sc, hW1, hW5]); refine re ?_
    refine r0 10 ?_; simp only [pz, pn, sz, sc, hW1, hW5]
    refine r0 11 ?_; simp only [pz, pn, sz, sc, hW1, hW5]
    refine r0 12 ?_; simp only [pz, pn, sz, sc, hW1, hW5]
    refine r1 13 ?_; (refine kt hst ta44 rfl rfl ?_; clear hst; intro w hst); (try simp only [pz, pn, sz, sc, hW1, hW5]); refine re ?_
    refine rd_ ?_
    all_goals
      go_wp2_with ((first | (refine kf gf139 hst (hlow1) rfl rfl rfl rfl ?_; clear hst; intro w hst) | (refine kt hst ta24 rfl rfl ?_; clear hst; intro w hst) | (refine kl hst ta44 rfl ?_)); try simp only [pz, pn, sz, sc])
      refine bp_c rfl rfl (la hst ta24) ⟨?_, hst.keeps⟩
      rfl
  · rw [if_pos rfl, hx2]
    clear hx2
    go_enter Tryz.func116, Tryz.ntmps116
    go_wp2_with ((first | (refine kg gf70 hst (fun w hst => hof w (hk.out w hst.keeps)) rfl rfl rfl rfl ?_; clear hst; intro w hst) | (refine kf hg hst (hgv) rfl rfl rfl rfl ?_; clear hst; intro w hst) | (refine ka 6 hst tz24 rfl rfl ?_; clear hst; intro b6 w hb6 hst) | (refine ka 7 hst tz128 rfl rfl ?_; clear hst; intro b7 w hb7 hst) | (refine kt hst ta128 rfl rfl ?_; clear hst; intro w hst) | (refine kl hst ta128 rfl ?_) | (refine ka 10 hst tz44 rfl rfl ?_; clear hst; intro b10 w hb10 hst) | (refine kt hst ta44 rfl rfl ?_; clear hst; intro w hst)); try simp only [pz, pn, sz, sc])
    refine wp_region_T 13  hst (by kernel_rfl) ?_; clear hst; intro w hst; (try simp only [List.length_cons, List.length_nil, Nat.reduceAdd, Array.replicate_succ, Array.replicate_zero, List.push_toArray, List.nil_append, List.cons_append])
    refine r0 1 ?_; simp only [pz, pn, sz, sc, hW1, hW5]
    refine r0 2 ?_; simp only [pz, pn, sz, sc, hW1, hW5]
    refine r0 5 ?_; simp only [pz, pn, sz, sc, hW1, hW5]
    refine rl 0 rfl ?_ (by first | exact ylA ta44 | exact ylM ta44); simp only [pz, pn, sz, sc, hW1, hW5]
    refine rl 6 rfl ?_ (ylC tc3); simp only [pz, pn, sz, sc, hW1, hW5]
    refine r0 7 ?_; simp only [pz, pn, sz, sc, hW1, hW5]
    refine r1 3 ?_; (refine wl_slice1 (o := ⟨some 29, _, _, _, _, _⟩) hst ts123 te22 rfl rfl (by (simp only [eval_lit, eval_k, eval_f, eval_g, List.getD_cons_succ, List.getD_cons_zero]) <;> rfl) (by rfl) ?_; clear hst; intro b29 w hb29 hst); (try simp only [pz, pn, sz, sc, hW1, hW5]); refine re ?_
    refine r1 4 ?_; (refine kg gf131 hst (fun w hst => hwo _ w (by rw [← h1'.out]; exact hst.own _ _ (by repeat (first | exact List.Mem.head _ | refine List.Mem.tail _ ?_)))) rfl rfl rfl rfl ?_; clear hst; intro w hst); (try simp only [pz, pn, sz, sc, hW1, hW5]); refine re ?_
    refine r1 8 ?_; (refine kf gf48 hst (hshl) rfl rfl rfl rfl ?_; clear hst; intro w hst); (try simp only [pz, pn, sz, sc, hW1, hW5]); refine re ?_
    refine r1 9 ?_; (refine kf gf104 hst (hadd) rfl rfl rfl rfl ?_; clear hst; intro w hst); (try simp only [pz, pn, sz, sc, hW1, hW5]); refine re ?_
    refine r0 10 ?_; simp only [pz, pn, sz, sc, hW1, hW5]
    refine r0 11 ?_; simp only [pz, pn, sz, sc, hW1, hW5]
    refine r0 12 ?_; simp only [pz, pn, sz, sc, hW1, hW5]
    refine r1 13 ?_; (refine kt hst ta44 rfl rfl ?_; clear hst; intro w hst); (try simp only [pz, pn, sz, sc, hW1, hW5]); refine re ?_
    refine rd_ ?_
    all_goals
      go_wp2_with fail
      refine wp_region_T 9  hst (by kernel_rfl) ?_; clear hst; intro w hst; (try simp only [List.length_cons, List.length_nil, Nat.reduceAdd, Array.replicate_succ, Array.replicate_zero, List.push_toArray, List.nil_append, List.cons_append])
      refine r0 1 ?_; simp only [pz, pn, sz, sc, hW2]
      refine rl 0 rfl ?_ (by first | exact ylA ta44 | exact ylM ta44); simp only [pz, pn, sz, sc, hW2]
      refine rl 2 rfl ?_ (ylC tc3); simp only [pz, pn, sz, sc, hW2]
      refine r0 3 ?_; simp only [pz, pn, sz, sc, hW2]
      refine r1 4 ?_; (refine kf gf127 hst (hpw) rfl rfl rfl rfl ?_; clear hst; intro w hst); (try simp only [pz, pn, sz, sc, hW2]); refine re ?_
      refine r1 5 ?_; (refine kf gf104 hst (hadd2) rfl rfl rfl rfl ?_; clear hst; intro w hst); (try simp only [pz, pn, sz, sc, hW2]); refine re ?_
      refine r0 6 ?_; simp only [pz, pn, sz, sc, hW2]
      refine r0 7 ?_; simp only [pz, pn, sz, sc, hW2]
      refine r0 8 ?_; simp only [pz, pn, sz, sc, hW2]
      refine r1 9 ?_; (refine kt hst ta44 rfl rfl ?_; clear hst; intro w hst); (try simp only [pz, pn, sz, sc, hW2]); refine re ?_
      refine rd_ ?_
      all_goals
        go_wp2_with ((first | (refine kf gf139 hst (hlow2) rfl rfl rfl rfl ?_; clear hst; intro w hst) | (refine kt hst ta24 rfl rfl ?_; clear hst; intro w hst) | (refine kl hst ta44 rfl ?_)); try simp only [pz, pn, sz, sc])
        refine bp_c rfl rfl (la hst ta24) ⟨?_, hst.keeps⟩
        rfl

theorem W_nought : W 0 = .agg #[.int .u64 0, .int .u64 0, .int .u64 0, .int .u64 0, .int .u64 0, .int .u64 0, .int .u64 0, .int .u64 0] := by kernel_rfl
theorem format_ones (f : Nat) : Gives Tryz.prog 146 #[.agg (fmC f)] (.int .i64 ((2 * fE f + 1 : Nat) : Int)) := by
  intro w0
  have hst := St.start [] w0
  have hE := fE_in f
  have z1 := fmC_size f
  have z2 := fmC_one f
  have g2 : (fmC f)[0 + 2]? = some (.int .i64 (fE f : Nat)) := rfl
  rw [show ((2 * fE f + 1 : Nat) : Int) = 2 * (fE f : Int) + 1 by omega]
  generalize fmC f = cs at *
  generalize fE f = E at *
  go_enter Tryz.func146, Tryz.ntmps146
  go_wp2_with ((first | (refine kb 1 hst rfl rfl ?_; clear hst; intro b1 w hb1 hst) | (refine kc hst tc3 rfl ?_)); try simp only [pz, pn, sz, sc])
  refine bp_t rfl rfl (by rfl) ⟨?_, hst.keeps⟩
  rfl
theorem format_Inf_1 (f : Nat) : Gives Tryz.prog 145 #[.agg (fmC f)] (.tuple #[.int .i64 ((2 * fE f + 1 : Nat) : Int), W 0]) := by
  intro w0
  have hst := St.start [] w0
  have ho := format_ones f
  have z1 := fmC_size f
  have z2 := fmC_one f
  generalize fmC f = cs at *
  generalize ((2 * fE f + 1 : Nat) : Int) = x at *
  go_enter Tryz.func145, Tryz.ntmps145
  go_wp2_with ((first | (refine kf gf146 hst (ho) rfl rfl rfl rfl ?_; clear hst; intro w hst) | (refine kb 1 hst rfl rfl ?_; clear hst; intro b1 w hb1 hst) | (refine ka 3 hst tz44 rfl rfl ?_; clear hst; intro b3 w hb3 hst) | (refine kl hst ta128 rfl ?_) | (refine kt hst ta44 rfl rfl ?_; clear hst; intro w hst)); try simp only [pz, pn, sz, sc])
  refine bp_tc rfl rfl (by rfl) (la hst ta44) ⟨?_, hst.keeps⟩
  rw [W_nought]; rfl
set_option maxHeartbeats 2000000 in
theorem wide_Mask (n : Nat) (h1 : 1 ≤ n) (hn : n < 512) : Gives Tryz.prog 148 #[.int .i64 n] (W (2 ^ n - 1)) := by
  intro w0
  have hst := St.start [] w0
  have hpw := wide_Power (n : Int)
  rw [show pow2 (n : Int) = 2 ^ n by unfold pow2; rw [if_pos (by omega)]; congr 1] at hpw
  have hp : 0 < 2 ^ n := Nat.pow_pos (by omega)
  have hM : 2 ^ n < M := by
    have key : ∀ t, M = 2 ^ t → n < t → 2 ^ n < M := fun t e h => by rw [e]; exact Nat.pow_lt_pow_right (by omega) h
    exact key (64 * 8) (by rw [M_eq, show B = 2 ^ 64 from rfl, ← Nat.pow_mul]) (by omega)
  have hwo := of_u64 1 (by decide)
  have h1' := Lib.hid (wc_1 1 (by decide))
  have hsub := wide_Sub (2 ^ n) 1 hM (by omega)
  rw [show (2 ^ n + M - 1) % M = 2 ^ n - 1 by rw [show 2 ^ n + M - 1 = 2 ^ n - 1 + M by omega, Nat.add_mod_right, Nat.mod_eq_of_lt (by omega)]] at hsub
  clear hM hp
  have n0 : (0 : Int) ≤ (n : Int) := by omega
  have hmx : max 0 (n : Int) = (n : Int) := by omega
  generalize 2 ^ n - 1 = y at *
  generalize 2 ^ n = x at *
  go_enter Tryz.func148, Tryz.ntmps148
  go_wp2_with ((first | (refine kf gf127 hst (hpw) rfl rfl rfl rfl ?_; clear hst; intro w hst) | (refine kg gf131 hst (fun w hst => hwo _ w (by rw [← h1'.out]; exact hst.own _ _ (by repeat (first | exact List.Mem.head _ | refine List.Mem.tail _ ?_)))) rfl rfl rfl rfl ?_; clear hst; intro w hst) | (refine kf gf122 hst (hsub) rfl rfl rfl rfl ?_; clear hst; intro w hst) | (refine ka 2 hst tz44 rfl rfl ?_; clear hst; intro b2 w hb2 hst) | (refine wl_slice1 (o := ⟨some 9, _, _, _, _, _⟩) hst ts123 te22 rfl rfl (by (simp only [eval_lit, eval_k, eval_f, eval_g, List.getD_cons_succ, List.getD_cons_zero]) <;> rfl) (by rfl) ?_; clear hst; intro b9 w hb9 hst) | (refine ka 3 hst tz44 rfl rfl ?_; clear hst; intro b3 w hb3 hst) | (refine kt hst ta44 rfl rfl ?_; clear hst; intro w hst) | (refine kl hst ta44 rfl ?_)); try simp only [pz, pn, sz, sc])
  refine bp_c rfl rfl (la hst ta44) ⟨?_, hst.keeps⟩
  rfl

theorem format_Max_1 (f : Nat) : Gives Tryz.prog 147 #[.agg (fmC f)] (.tuple #[.int .i64 ((2 * fE f : Nat) : Int), W (2 ^ (fP f - 1) - 1)]) := by
  intro w0
  have hst := St.start [] w0
  have ho := format_ones f
  have hP := fP_in f
  have hE := fE_in f
  have hm := wide_Mask (fP f - 1) (by omega) (by omega)
  rw [show ((fP f - 1 : Nat) : Int) = (fP f : Int) - 1 by omega] at hm
  rw [show ((2 * fE f + 1 : Nat) : Int) = 2 * (fE f : Int) + 1 by omega] at ho
  rw [show ((2 * fE f : Nat) : Int) = 2 * (fE f : Int) by omega]
  have W1 : IntKind.i64.wrap ((fP f : Int) - 1) = (fP f : Int) - 1 := by rw [IntKind.wrap_i64]; omega
  have W2 : IntKind.i64.wrap (2 * (fE f : Int)) = 2 * (fE f : Int) := by rw [IntKind.wrap_i64]; omega
  have z1 := fmC_size f
  have z2 := fmC_one f
  have g1 : (fmC f)[0 + 1]? = some (.int .i64 (fP f : Nat)) := rfl
  generalize 2 ^ (fP f - 1) - 1 = y at *
  generalize fmC f = cs at *
  generalize fP f = p at *
  generalize fE f = E at *
  go_enter Tryz.func147, Tryz.ntmps147
  go_wp2_with ((first | (refine kb 1 hst rfl rfl ?_; clear hst; intro b1 w hb1 hst) | (refine ka 3 hst tz44 rfl rfl ?_; clear hst; intro b3 w hb3 hst)); try simp only [pz, pn, sz, sc])
  refine wp_region_T 8  hst (by kernel_rfl) ?_; clear hst; intro w hst; (try simp only [List.length_cons, List.length_nil, Nat.reduceAdd, Array.replicate_succ, Array.replicate_zero, List.push_toArray, List.nil_append, List.cons_append])
  refine r0 3 ?_; simp only [pz, pn, sz, sc, W1, W2]
  refine rl 0 rfl ?_ (by first | exact ylA ta128 | exact ylM ta128); simp only [pz, pn, sz, sc, W1, W2]
  refine rl 4 rfl ?_ (ylC tc3); simp only [pz, pn, sz, sc, W1, W2]
  refine r0 5 ?_; simp only [pz, pn, sz, sc, W1, W2]
  refine r1 1 ?_; (refine kf gf146 hst (ho) rfl rfl rfl rfl ?_; clear hst; intro w hst); (try simp only [pz, pn, sz, sc, W1, W2]); refine re ?_
  refine r0 2 ?_; simp only [pz, pn, sz, sc, W1, W2]
  refine r1 6 ?_; (refine kf gf148 hst (hm) rfl rfl rfl rfl ?_; clear hst; intro w hst); (try simp only [pz, pn, sz, sc, W1, W2]); refine re ?_
  refine r0 7 ?_; simp only [pz, pn, sz, sc, W1, W2]
  refine r1 8 ?_; (refine kt hst ta44 rfl rfl ?_; clear hst; intro w hst); (try simp only [pz, pn, sz, sc, W1, W2]); refine re ?_
  refine rd_ ?_
  all_goals
    go_wp2_with fail
    refine bp_tc rfl rfl (by rfl) (la hst ta44) ⟨?_, hst.keeps⟩
    rfl

theorem mkW_inf (f : Nat) (ng : Bool) : mkW f ng (2 * fE f + 1) 0 = infW f ng := by unfold mkW infW; rw [Nat.zero_add]
theorem mkW_max (f : Nat) (ng : Bool) : mkW f ng (2 * fE f) (2 ^ (fP f - 1) - 1) = maxW f ng := by
  unfold mkW maxW
  have hp : 0 < 2 ^ (fP f - 1) := Nat.pow_pos (by omega)
  rw [Nat.add_mul (2 * fE f) 1, Nat.one_mul]
  congr 1
  omega
theorem format_Inf (f : Nat) (h1 : 1 ≤ f) (h4 : f ≤ 4) (ng : Bool) (w0 : World) (hF : FmtIn w0) : GivesAt Tryz.prog 119 #[.int .i64 f, .bool ng] (Wd (infW f ng)) w0 := by
  have hst := St.start [] w0
  have hk := Lib.hid (fun w (k : Keeps [] w0 w) => hF.keep k (by simp))
  have hw := fun w h => format_word f h1 h4 ng 145 gf145 (2 * fE f + 1) 0 (by omega) (Nat.pow_pos (by omega)) (format_Inf_1 f) w h
  rw [mkW_inf] at hw
  clear hF h1 h4
  generalize infW f ng = x at *
  go_enter Tryz.func119, Tryz.ntmps119
  go_wp2_with ((first | (refine kg gf116 hst (fun w hst => hw w (hk.out w hst.keeps)) rfl rfl rfl rfl ?_; clear hst; intro w hst) | (refine ka 4 hst tz24 rfl rfl ?_; clear hst; intro b4 w hb4 hst) | (refine kt hst ta24 rfl rfl ?_; clear hst; intro w hst)); try simp only [pz, pn, sz, sc])
  refine bp_c rfl rfl (la hst ta24) ⟨?_, hst.keeps⟩
  rfl
theorem format_Max (f : Nat) (h1 : 1 ≤ f) (h4 : f ≤ 4) (ng : Bool) (w0 : World) (hF : FmtIn w0) : GivesAt Tryz.prog 120 #[.int .i64 f, .bool ng] (Wd (maxW f ng)) w0 := by
  have hst := St.start [] w0
  have hk := Lib.hid (fun w (k : Keeps [] w0 w) => hF.keep k (by simp))
  have hw := fun w h => format_word f h1 h4 ng 147 gf147 (2 * fE f) (2 ^ (fP f - 1) - 1) (by omega) (Nat.sub_lt (Nat.pow_pos (by omega)) (by omega)) (format_Max_1 f) w h
  rw [mkW_max] at hw
  clear hF h1 h4
  generalize maxW f ng = x at *
  go_enter Tryz.func120, Tryz.ntmps120
  go_wp2_with ((first | (refine kg gf116 hst (fun w hst => hw w (hk.out w hst.keeps)) rfl rfl rfl rfl ?_; clear hst; intro w hst) | (refine ka 4 hst tz24 rfl rfl ?_; clear hst; intro b4 w hb4 hst) | (refine kt hst ta24 rfl rfl ?_; clear hst; intro w hst)); try simp only [pz, pn, sz, sc])
  refine bp_c rfl rfl (la hst ta24) ⟨?_, hst.keeps⟩
  rfl
/-- What of an overflow is told: by mode and sign. -/
theorem overW_eq (f m : Nat) (ng : Bool) : overW f m ng = if m = 1 ∨ m = 2 ∨ growsB m ng false 3 = true then infW f ng else maxW f ng := by
  unfold overW infW maxW
  split <;> rfl

set_option maxHeartbeats 2000000 in
theorem pack_over (f : Nat) (h1 : 1 ≤ f) (h4 : f ≤ 4) (m : Nat) (m1 : 1 ≤ m) (m5 : m ≤ 5) (ng : Bool) (w0 : World) (hF : FmtIn w0) : GivesAt Tryz.prog 96 #[.int .i64 f, .int .i64 m, .bool ng] (.tuple #[Wd (overW f m ng), .int .i64 20]) w0 := by
  have hst := St.start [] w0
  have hk := Lib.hid (fun w (k : Keeps [] w0 w) => hF.keep k (by simp))
  have hin := fun w h => format_Inf f h1 h4 ng w h
  have hmx := fun w h => format_Max f h1 h4 ng w h
  have hgr := mode_Grows m m1 m5 ng false 3 (by omega)
  rw [overW_eq]
  by_cases e1 : m = 1
  · rw [if_pos (.inl e1)]
    subst e1
    clear hF h1 h4 hmx hgr
    generalize infW f ng = x at *
    go_enter Tryz.func96, Tryz.ntmps96
    go_wp2_with ((first | (refine kg gf119 hst (fun w hst => hin w (hk.out w hst.keeps)) rfl rfl rfl rfl ?_; clear hst; intro w hst) | (refine ka 6 hst tz24 rfl rfl ?_; clear hst; intro b6 w hb6 hst) | (refine kt hst ta24 rfl rfl ?_; clear hst; intro w hst)); try simp only [pz, pn, sz, sc])
    refine bp_ct rfl rfl (la hst ta24) (by rfl) ⟨?_, hst.keeps⟩
    rfl
  · by_cases e2 : m = 2
    · rw [if_pos (.inr (.inl e2))]
      subst e2
      clear hF h1 h4 hmx hgr
      generalize infW f ng = x at *
      go_enter Tryz.func96, Tryz.ntmps96
      go_wp2_with ((first | (refine kg gf119 hst (fun w hst => hin w (hk.out w hst.keeps)) rfl rfl rfl rfl ?_; clear hst; intro w hst) | (refine wl_guard (by rfl) ?_) | (refine ka 6 hst tz24 rfl rfl ?_; clear hst; intro b6 w hb6 hst) | (refine kt hst ta24 rfl rfl ?_; clear hst; intro w hst)); try simp only [pz, pn, sz, sc])
      refine bp_ct rfl rfl (la hst ta24) (by rfl) ⟨?_, hst.keeps⟩
      rfl
    · have q1 : ((m : Int) == 1) = false := by simp; omega
      have q2 : ((m : Int) == 2) = false := by simp; omega
      cases hg : growsB m ng false 3
      · rw [if_neg (by rintro (h | h | h); exact e1 h; exact e2 h; cases h)]
        rw [hg] at hgr
        clear hF h1 h4 hin hg e1 e2
        generalize maxW f ng = x at *
        go_enter Tryz.func96, Tryz.ntmps96
        go_wp2_with ((first | (refine kf gf118 hst (hgr) rfl rfl rfl rfl ?_; clear hst; intro w hst) | (refine kg gf120 hst (fun w hst => hmx w (hk.out w hst.keeps)) rfl rfl rfl rfl ?_; clear hst; intro w hst) | (refine wl_guard (by rfl) ?_) | (refine ka 6 hst tz24 rfl rfl ?_; clear hst; intro b6 w hb6 hst) | (refine kt hst ta24 rfl rfl ?_; clear hst; intro w hst)); try simp only [pz, pn, sz, sc])
        refine bp_ct rfl rfl (la hst ta24) (by rfl) ⟨?_, hst.keeps⟩
        rfl
      · rw [if_pos (.inr (.inr rfl))]
        rw [hg] at hgr
        clear hF h1 h4 hmx hg e1 e2
        generalize infW f ng = x at *
        go_enter Tryz.func96, Tryz.ntmps96
        go_wp2_with ((first | (refine kf gf118 hst (hgr) rfl rfl rfl rfl ?_; clear hst; intro w hst) | (refine kg gf119 hst (fun w hst => hin w (hk.out w hst.keeps)) rfl rfl rfl rfl ?_; clear hst; intro w hst) | (refine wl_guard (by rfl) ?_) | (refine ka 6 hst tz24 rfl rfl ?_; clear hst; intro b6 w hb6 hst) | (refine kt hst ta24 rfl rfl ?_; clear hst; intro w hst)); try simp only [pz, pn, sz, sc])
        refine bp_ct rfl rfl (la hst ta24) (by rfl) ⟨?_, hst.keeps⟩
        rfl

end Go.Proofs.YtefpoconpeggpaaGreatDoor.Rd
