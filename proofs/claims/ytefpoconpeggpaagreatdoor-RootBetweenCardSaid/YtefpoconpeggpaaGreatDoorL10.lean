/- What the reference's Shl answers. -/
import Derived.Test.YtefpoconpeggpaaGreatDoorL09
import Derived.Test.YtefpoconpeggpaaGreatDoorL06
import Derived.Test.YtefpoconpeggpaaGreatDoorL08
import Derived.Test.YtefpoconpeggpaaGreatDoorL04
namespace Go.Proofs.YtefpoconpeggpaaGreatDoor.Rd
open Go Go.RowKit
set_option linter.unusedVariables false
set_option linter.unusedSimpArgs false
set_option maxRecDepth 100000

theorem ref24_Some_of (f : Int) (m : Nat) (k : Nat) (hk : k ≤ 6) (hc : Gives Tryz.prog 64 #[.int .i64 f, Wd m] (.int .i64 k)) : Gives Tryz.prog 32 #[.int .i64 f, Wd m] (.bool (decide (k = 4) || decide (k = 5))) := by
  intro w0
  have hst := St.start [] w0
  obtain rfl | rfl | rfl | rfl | rfl | rfl | rfl : k = 0 ∨ k = 1 ∨ k = 2 ∨ k = 3 ∨ k = 4 ∨ k = 5 ∨ k = 6 := by omega
  all_goals
    simp only [Int.natCast_zero, Int.natCast_one, Int.cast_ofNat_Int] at hc
    go_enter Tryz.func32, Tryz.ntmps32
    go_wp2_with ((first | (refine kf gf64 hst (hc) rfl rfl rfl rfl ?_; clear hst; intro w hst) | (refine kb 3 hst rfl rfl ?_; clear hst; intro b3 w hb3 hst) | (refine kl hst ta24 rfl ?_)); try simp only [pz, pn, sz, sc])
    refine bp_t rfl rfl (by rfl) ⟨?_, hst.keeps⟩
    rfl

theorem clsN_le (f m : Nat) : clsN f m ≤ 6 := by unfold clsN; (repeat' split) <;> omega

set_option maxHeartbeats 4000000 in
theorem ref07_Value (f : Nat) (h1 : 1 ≤ f) (h4 : f ≤ 4) (m : Nat) (hm : m < M2) (hf : m < 2 ^ fB f) : Gives Tryz.prog 14 #[.int .i64 f, Wd m] (.agg (nbC (wNeg f m) (wExp f m) (wSig f m))) := by
  intro w0
  have hst := St.start [] w0
  have hfd := ref06_Field f h1 h4 m hm
  have hng := ref06_Neg f h1 h4 m hm hf
  have hfr := ref06_Fraction f h1 h4 m hm
  have hem := ref05_EMin f h1 h4
  have hpr := ref05_Prec f h1 h4
  have hP := fP_in f
  have hE := fE_in f
  have hl := wField_lt f m
  have hfl := wFrac_lt f m
  have W2 : IntKind.i64.wrap (1 - (fE f : Int) - fP f) = 1 - (fE f : Int) - fP f := by rw [IntKind.wrap_i64]; omega
  have W3 : IntKind.i64.wrap (1 - (fE f : Int) - fP f + 1) = 1 - (fE f : Int) - fP f + 1 := by rw [IntKind.wrap_i64]; omega
  by_cases h0 : wField f m = 0
  · have e1 : wSig f m = wFrac f m := by unfold wSig; rw [if_pos h0]
    have e2 : wExp f m = 1 - (fE f : Int) - fP f + 1 := by unfold wExp; rw [h0]; simp
    rw [e1, e2]
    rw [h0, show ((0 : Nat) : Int) = 0 from rfl] at hfd
    clear e1 e2 h0 hl hfl hm hf h1 h4
    unfold nbC
    generalize wFrac f m = fr at *
    generalize wNeg f m = ng at *
    generalize fP f = p at *
    generalize fE f = E at *
    have y2 : OneC (#[Value.bool ng, .int .i64 (1 - (E : Int) - p + 1)] ++ wc 8 fr) := nbC_one ng _ fr
    go_enter Tryz.func14, Tryz.ntmps14
    go_wp2_with ((first | (refine kf gf34 hst (hfd) rfl rfl rfl rfl ?_; clear hst; intro w hst) | (refine kb 3 hst rfl rfl ?_; clear hst; intro b3 w hb3 hst) | (refine ka 4 hst tz46 rfl rfl ?_; clear hst; intro b4 w hb4 hst) | (refine kl hst ta24 rfl ?_)); try simp only [pz, pn, sz, sc])
    refine wp_region_T 14  hst (by kernel_rfl) ?_; clear hst; intro w hst; (try simp only [List.length_cons, List.length_nil, Nat.reduceAdd, Array.replicate_succ, Array.replicate_zero, List.push_toArray, List.nil_append, List.cons_append])
    refine r0 0 ?_; simp only [pz, pn, sz, sc, W2, W3]
    refine r0 3 ?_; simp only [pz, pn, sz, sc, W2, W3]
    refine r0 6 ?_; simp only [pz, pn, sz, sc, W2, W3]
    refine r0 8 ?_; simp only [pz, pn, sz, sc, W2, W3]
    refine rl 1 rfl ?_ (by first | exact ylA ta24 | exact ylM ta24); simp only [pz, pn, sz, sc, W2, W3]
    refine rl 4 rfl ?_ (by first | exact ylA ta24 | exact ylM ta24); simp only [pz, pn, sz, sc, W2, W3]
    refine r2 2 13 ?_ ?_
    (refine kf gf35 hst (hng) rfl rfl rfl rfl ?_; clear hst; intro w hst); (try simp only [pz, pn, sz, sc, W2, W3]); refine re ?_
    refine r2 5 13 ?_ ?_
    (refine kf gf36 hst (hfr) rfl rfl rfl rfl ?_; clear hst; intro w hst); (try simp only [pz, pn, sz, sc, W2, W3]); refine re ?_
    refine r2 7 13 ?_ ?_
    (refine kf gf37 hst (hem) rfl rfl rfl rfl ?_; clear hst; intro w hst); (try simp only [pz, pn, sz, sc, W2, W3]); refine re ?_
    refine r2 9 13 ?_ ?_
    (refine kf gf25 hst (hpr) rfl rfl rfl rfl ?_; clear hst; intro w hst); (try simp only [pz, pn, sz, sc, W2, W3]); refine re ?_
    refine r0 10 ?_; simp only [pz, pn, sz, sc, W2, W3]
    refine r0 11 ?_; simp only [pz, pn, sz, sc, W2, W3]
    refine r0 12 ?_ (hy := yB (tb46_021 _ _ _)); simp only [pz, pn, sz, sc, W2, W3]
    refine r1 13 ?_; (refine ka 6 hst tz46 rfl rfl ?_; clear hst; intro b6 w hb6 hst); (try simp only [pz, pn, sz, sc, W2, W3]); refine re ?_
    refine r1 14 ?_; (refine kt hst ta46 rfl rfl ?_; clear hst; intro w hst); (try simp only [pz, pn, sz, sc, W2, W3]); refine re ?_
    refine rd_ ?_
    rotate_left 1
    (refine ka 6 hst tz46 rfl rfl ?_; clear hst; intro b6 w hb6 hst); (try simp only [pz, pn, sz, sc, W2, W3]); refine re ?_
    refine r1 9 ?_; (refine kf gf25 hst (hpr) rfl rfl rfl rfl ?_; clear hst; intro w hst); (try simp only [pz, pn, sz, sc, W2, W3]); refine re ?_
    refine r0 10 ?_; simp only [pz, pn, sz, sc, W2, W3]
    refine r0 11 ?_; simp only [pz, pn, sz, sc, W2, W3]
    refine r0 12 ?_ (hy := yB (tb46_021 _ _ _)); simp only [pz, pn, sz, sc, W2, W3]
    refine r1 14 ?_; (refine kt hst ta46 rfl rfl ?_; clear hst; intro w hst); (try simp only [pz, pn, sz, sc, W2, W3]); refine re ?_
    refine rd_ ?_
    rotate_right 1
    rotate_left 2
    (refine ka 6 hst tz46 rfl rfl ?_; clear hst; intro b6 w hb6 hst); (try simp only [pz, pn, sz, sc, W2, W3]); refine re ?_
    refine r1 7 ?_; (refine kf gf37 hst (hem) rfl rfl rfl rfl ?_; clear hst; intro w hst); (try simp only [pz, pn, sz, sc, W2, W3]); refine re ?_
    refine r1 9 ?_; (refine kf gf25 hst (hpr) rfl rfl rfl rfl ?_; clear hst; intro w hst); (try simp only [pz, pn, sz, sc, W2, W3]); refine re ?_
    refine r0 10 ?_; simp only [pz, pn, sz, sc, W2, W3]
    refine r0 11 ?_; simp only [pz, pn, sz, sc, W2, W3]
    refine r0 12 ?_ (hy := yB (tb46_021 _ _ _)); simp only [pz, pn, sz, sc, W2, W3]
    refine r1 14 ?_; (refine kt hst ta46 rfl rfl ?_; clear hst; intro w hst); (try simp only [pz, pn, sz, sc, W2, W3]); refine re ?_
    refine rd_ ?_
    rotate_right 2
    rotate_left 3
    (refine ka 6 hst tz46 rfl rfl ?_; clear hst; intro b6 w hb6 hst); (try simp only [pz, pn, sz, sc, W2, W3]); refine re ?_
    refine r1 5 ?_; (refine kf gf36 hst (hfr) rfl rfl rfl rfl ?_; clear hst; intro w hst); (try simp only [pz, pn, sz, sc, W2, W3]); refine re ?_
    refine r1 7 ?_; (refine kf gf37 hst (hem) rfl rfl rfl rfl ?_; clear hst; intro w hst); (try simp only [pz, pn, sz, sc, W2, W3]); refine re ?_
    refine r1 9 ?_; (refine kf gf25 hst (hpr) rfl rfl rfl rfl ?_; clear hst; intro w hst); (try simp only [pz, pn, sz, sc, W2, W3]); refine re ?_
    refine r0 10 ?_; simp only [pz, pn, sz, sc, W2, W3]
    refine r0 11 ?_; simp only [pz, pn, sz, sc, W2, W3]
    refine r0 12 ?_ (hy := yB (tb46_021 _ _ _)); simp only [pz, pn, sz, sc, W2, W3]
    refine r1 14 ?_; (refine kt hst ta46 rfl rfl ?_; clear hst; intro w hst); (try simp only [pz, pn, sz, sc, W2, W3]); refine re ?_
    refine rd_ ?_
    rotate_right 3
    rotate_left 4
    (refine ka 6 hst tz46 rfl rfl ?_; clear hst; intro b6 w hb6 hst); (try simp only [pz, pn, sz, sc, W2, W3]); refine re ?_
    refine r1 2 ?_; (refine kf gf35 hst (hng) rfl rfl rfl rfl ?_; clear hst; intro w hst); (try simp only [pz, pn, sz, sc, W2, W3]); refine re ?_
    refine r1 5 ?_; (refine kf gf36 hst (hfr) rfl rfl rfl rfl ?_; clear hst; intro w hst); (try simp only [pz, pn, sz, sc, W2, W3]); refine re ?_
    refine r1 7 ?_; (refine kf gf37 hst (hem) rfl rfl rfl rfl ?_; clear hst; intro w hst); (try simp only [pz, pn, sz, sc, W2, W3]); refine re ?_
    refine r1 9 ?_; (refine kf gf25 hst (hpr) rfl rfl rfl rfl ?_; clear hst; intro w hst); (try simp only [pz, pn, sz, sc, W2, W3]); refine re ?_
    refine r0 10 ?_; simp only [pz, pn, sz, sc, W2, W3]
    refine r0 11 ?_; simp only [pz, pn, sz, sc, W2, W3]
    refine r0 12 ?_ (hy := yB (tb46_021 _ _ _)); simp only [pz, pn, sz, sc, W2, W3]
    refine r1 14 ?_; (refine kt hst ta46 rfl rfl ?_; clear hst; intro w hst); (try simp only [pz, pn, sz, sc, W2, W3]); refine re ?_
    refine rd_ ?_
    rotate_right 4
    all_goals
      go_wp2_with ((first | (refine kt hst ta46 rfl rfl ?_; clear hst; intro w hst) | (refine kl hst ta46 rfl ?_)); try simp only [pz, pn, sz, sc])
      refine bp_c rfl rfl (la hst ta46) ⟨?_, hst.keeps⟩
      rfl
  · have e1 : wSig f m = wFrac f m + 2 ^ (fP f - 1) := by unfold wSig; rw [if_neg h0]
    obtain ⟨d, hd⟩ : ∃ d, wField f m = d + 1 := ⟨wField f m - 1, by omega⟩
    have e2 : wExp f m = 1 - (fE f : Int) - fP f + 1 + ((d : Int) + 1) - 1 := by unfold wExp; rw [hd]; omega
    rw [e1, e2]
    rw [hd, show ((d + 1 : Nat) : Int) = (d : Int) + 1 by omega] at hfd
    have hd0 : (0 : Int) < (d : Int) + 1 := by omega
    have hdl : d < 32768 := by omega
    obtain ⟨i, hi⟩ : ∃ i, i = fP f - 1 := ⟨_, rfl⟩
    rw [← hi] at hfl ⊢
    obtain ⟨sb1, sb2⟩ := set_bit (wFrac f m) i hfl (by omega)
    obtain ⟨qd, hq⟩ : ∃ q, q = i / 64 := ⟨_, rfl⟩
    obtain ⟨rr, hr⟩ : ∃ r, r = i % 64 := ⟨_, rfl⟩
    rw [← hq, ← hr] at sb1 sb2
    have E0 : (fP f : Int) - 1 = (i : Int) := by omega
    have Q1 : (i : Int) / 64 = (qd : Int) := by omega
    have Q2 : (i : Int) % 64 = (rr : Int) := by omega
    have Q5 : (i : Int).tdiv 64 = (qd : Int) := by rw [Int.tdiv_eq_ediv_of_nonneg (by omega)]; exact Q1
    have Q6 : (i : Int).tmod 64 = (rr : Int) := by rw [Int.tmod_eq_emod_of_nonneg (by omega)]; exact Q2
    have q0 : (0 : Int) ≤ (qd : Int) := by omega
    have q8 : (qd : Int) < 8 := by omega
    have q8' : qd < 8 := by omega
    have rr0 : (0 : Int) ≤ (rr : Int) := by omega
    have rr6 : (rr : Int) < 64 := by omega
    have P1 : IntKind.u64.wrap ((2 : Int) ^ rr) = ((2 ^ rr : Nat) : Int) := by
      have a : 2 ^ rr ≤ 2 ^ 63 := Nat.pow_le_pow_right (by omega) (by omega)
      rw [show (2 : Int) ^ rr = ((2 ^ rr : Nat) : Int) by simp, u64_wrap, Nat.mod_eq_of_lt (by rw [B_val]; omega)]
    have P2 : IntKind.u64.wrap ((lb (wFrac f m) qd : Int) + ((2 ^ rr : Nat) : Int)) = (lb (wFrac f m) qd : Int) + ((2 ^ rr : Nat) : Int) := by rw [← Int.natCast_add, u64_wrap, Nat.mod_eq_of_lt sb2]
    have P3 : IntKind.i64.wrap (qd : Int) = (qd : Int) := by rw [IntKind.wrap_i64]; omega
    have P4 : IntKind.i64.wrap (rr : Int) = (rr : Int) := by rw [IntKind.wrap_i64]; omega
    have hP5 := Lib.hid (show IntKind.u64.wrap ((lb (wFrac f m) qd : Int) + (2 : Int) ^ rr) = (lb (wFrac f m) qd : Int) + ((2 ^ rr : Nat) : Int) by rw [show (2 : Int) ^ rr = ((2 ^ rr : Nat) : Int) by simp]; exact P2)
    have hgq : ∀ a b : Value, (#[a, b] ++ wc 8 (wFrac f m))[2 + qd]? = some (.int .u64 (lb (wFrac f m) qd : Nat)) := fun a b => by
      rw [Array.getElem?_append_right (by simp)]
      simp only [List.size_toArray, List.length_cons, List.length_nil, Nat.zero_add, Nat.reduceAdd, Nat.add_sub_cancel_left]
      exact wc_get 8 _ _ q8'
    have hsq := Lib.hid (show ∀ a b v : Value, (#[a, b] ++ wc 8 (wFrac f m)).setIfInBounds (2 + qd) v = #[a, b] ++ (wc 8 (wFrac f m)).setIfInBounds qd v from fun a b v => by
      rw [Array.setIfInBounds_append_right (by simp)]
      simp)
    have hs1 := Lib.hid (show ∀ (a b v : Value) (n : Nat), (#[a, b] ++ wc 8 n).setIfInBounds (0 + 1) v = #[a, v] ++ wc 8 n from fun a b v n => by rw [Array.setIfInBounds_append_left (by simp)]; rfl)
    have hset := Lib.hid sb1
    clear e1 e2 h0 hl hfl hm hf h1 h4 hd hq hr hi sb1 sb2
    unfold nbC
    generalize 2 ^ i = pw at *
    generalize wFrac f m = fr at *
    generalize wNeg f m = ng at *
    generalize fP f = p at *
    generalize fE f = E at *
    obtain ⟨e0, he0⟩ : ∃ e0 : Int, 1 - (E : Int) - p + 1 = e0 := ⟨_, rfl⟩
    have he1 : -100000 ≤ e0 := by omega
    have he2 : e0 ≤ 100000 := by omega
    rw [he0] at W3 ⊢
    have hg1 := hgq (.bool ng) (.int .i64 e0)
    have y2 : OneC (#[Value.bool ng, .int .i64 e0] ++ wc 8 fr) := nbC_one ng _ fr
    have y3 : (#[Value.bool ng, .int .i64 e0] ++ wc 8 fr).size = 10 := by simp
    have y4 : (#[Value.bool ng, .int .i64 (e0 + ((d : Int) + 1) - 1)] ++ wc 8 (fr + pw)).size = 10 := by simp
    have y5 : OneC (#[Value.bool ng, .int .i64 (e0 + ((d : Int) + 1) - 1)] ++ wc 8 (fr + pw)) := nbC_one ng _ _
    go_enter Tryz.func14, Tryz.ntmps14
    go_wp2_with ((first | (refine kf gf34 hst (hfd) rfl rfl rfl rfl ?_; clear hst; intro w hst) | (refine kb 3 hst rfl rfl ?_; clear hst; intro b3 w hb3 hst) | (refine ka 4 hst tz46 rfl rfl ?_; clear hst; intro b4 w hb4 hst) | (refine kl hst ta24 rfl ?_)); try simp only [pz, pn, sz, sc])
    refine wp_region_T 14  hst (by kernel_rfl) ?_; clear hst; intro w hst; (try simp only [List.length_cons, List.length_nil, Nat.reduceAdd, Array.replicate_succ, Array.replicate_zero, List.push_toArray, List.nil_append, List.cons_append])
    refine r0 0 ?_; simp only [pz, pn, sz, sc, W2, he0, W3]
    refine r0 3 ?_; simp only [pz, pn, sz, sc, W2, he0, W3]
    refine r0 6 ?_; simp only [pz, pn, sz, sc, W2, he0, W3]
    refine r0 8 ?_; simp only [pz, pn, sz, sc, W2, he0, W3]
    refine rl 1 rfl ?_ (by first | exact ylA ta24 | exact ylM ta24); simp only [pz, pn, sz, sc, W2, he0, W3]
    refine rl 4 rfl ?_ (by first | exact ylA ta24 | exact ylM ta24); simp only [pz, pn, sz, sc, W2, he0, W3]
    refine r2 2 13 ?_ ?_
    (refine kf gf35 hst (hng) rfl rfl rfl rfl ?_; clear hst; intro w hst); (try simp only [pz, pn, sz, sc, W2, he0, W3]); refine re ?_
    refine r2 5 13 ?_ ?_
    (refine kf gf36 hst (hfr) rfl rfl rfl rfl ?_; clear hst; intro w hst); (try simp only [pz, pn, sz, sc, W2, he0, W3]); refine re ?_
    refine r2 7 13 ?_ ?_
    (refine kf gf37 hst (hem) rfl rfl rfl rfl ?_; clear hst; intro w hst); (try simp only [pz, pn, sz, sc, W2, he0, W3]); refine re ?_
    refine r2 9 13 ?_ ?_
    (refine kf gf25 hst (hpr) rfl rfl rfl rfl ?_; clear hst; intro w hst); (try simp only [pz, pn, sz, sc, W2, he0, W3]); refine re ?_
    refine r0 10 ?_; simp only [pz, pn, sz, sc, W2, he0, W3]
    refine r0 11 ?_; simp only [pz, pn, sz, sc, W2, he0, W3]
    refine r0 12 ?_ (hy := yB (tb46_021 _ _ _)); simp only [pz, pn, sz, sc, W2, he0, W3]
    refine r1 13 ?_; (refine ka 6 hst tz46 rfl rfl ?_; clear hst; intro b6 w hb6 hst); (try simp only [pz, pn, sz, sc, W2, he0, W3]); refine re ?_
    refine r1 14 ?_; (refine kt hst ta46 rfl rfl ?_; clear hst; intro w hst); (try simp only [pz, pn, sz, sc, W2, he0, W3]); refine re ?_
    refine rd_ ?_
    rotate_left 1
    (refine ka 6 hst tz46 rfl rfl ?_; clear hst; intro b6 w hb6 hst); (try simp only [pz, pn, sz, sc, W2, he0, W3]); refine re ?_
    refine r1 9 ?_; (refine kf gf25 hst (hpr) rfl rfl rfl rfl ?_; clear hst; intro w hst); (try simp only [pz, pn, sz, sc, W2, he0, W3]); refine re ?_
    refine r0 10 ?_; simp only [pz, pn, sz, sc, W2, he0, W3]
    refine r0 11 ?_; simp only [pz, pn, sz, sc, W2, he0, W3]
    refine r0 12 ?_ (hy := yB (tb46_021 _ _ _)); simp only [pz, pn, sz, sc, W2, he0, W3]
    refine r1 14 ?_; (refine kt hst ta46 rfl rfl ?_; clear hst; intro w hst); (try simp only [pz, pn, sz, sc, W2, he0, W3]); refine re ?_
    refine rd_ ?_
    rotate_right 1
    rotate_left 2
    (refine ka 6 hst tz46 rfl rfl ?_; clear hst; intro b6 w hb6 hst); (try simp only [pz, pn, sz, sc, W2, he0, W3]); refine re ?_
    refine r1 7 ?_; (refine kf gf37 hst (hem) rfl rfl rfl rfl ?_; clear hst; intro w hst); (try simp only [pz, pn, sz, sc, W2, he0, W3]); refine re ?_
    refine r1 9 ?_; (refine kf gf25 hst (hpr) rfl rfl rfl rfl ?_; clear hst; intro w hst); (try simp only [pz, pn, sz, sc, W2, he0, W3]); refine re ?_
    refine r0 10 ?_; simp only [pz, pn, sz, sc, W2, he0, W3]
    refine r0 11 ?_; simp only [pz, pn, sz, sc, W2, he0, W3]
    refine r0 12 ?_ (hy := yB (tb46_021 _ _ _)); simp only [pz, pn, sz, sc, W2, he0, W3]
    refine r1 14 ?_; (refine kt hst ta46 rfl rfl ?_; clear hst; intro w hst); (try simp only [pz, pn, sz, sc, W2, he0, W3]); refine re ?_
    refine rd_ ?_
    rotate_right 2
    rotate_left 3
    (refine ka 6 hst tz46 rfl rfl ?_; clear hst; intro b6 w hb6 hst); (try simp only [pz, pn, sz, sc, W2, he0, W3]); refine re ?_
    refine r1 5 ?_; (refine kf gf36 hst (hfr) rfl rfl rfl rfl ?_; clear hst; intro w hst); (try simp only [pz, pn, sz, sc, W2, he0, W3]); refine re ?_
    refine r1 7 ?_; (refine kf gf37 hst (hem) rfl rfl rfl rfl ?_; clear hst; intro w hst); (try simp only [pz, pn, sz, sc, W2, he0, W3]); refine re ?_
    refine r1 9 ?_; (refine kf gf25 hst (hpr) rfl rfl rfl rfl ?_; clear hst; intro w hst); (try simp only [pz, pn, sz, sc, W2, he0, W3]); refine re ?_
    refine r0 10 ?_; simp only [pz, pn, sz, sc, W2, he0, W3]
    refine r0 11 ?_; simp only [pz, pn, sz, sc, W2, he0, W3]
    refine r0 12 ?_ (hy := yB (tb46_021 _ _ _)); simp only [pz, pn, sz, sc, W2, he0, W3]
    refine r1 14 ?_; (refine kt hst ta46 rfl rfl ?_; clear hst; intro w hst); (try simp only [pz, pn, sz, sc, W2, he0, W3]); refine re ?_
    refine rd_ ?_
    rotate_right 3
    rotate_left 4
    (refine ka 6 hst tz46 rfl rfl ?_; clear hst; intro b6 w hb6 hst); (try simp only [pz, pn, sz, sc, W2, he0, W3]); refine re ?_
    refine r1 2 ?_; (refine kf gf35 hst (hng) rfl rfl rfl rfl ?_; clear hst; intro w hst); (try simp only [pz, pn, sz, sc, W2, he0, W3]); refine re ?_
    refine r1 5 ?_; (refine kf gf36 hst (hfr) rfl rfl rfl rfl ?_; clear hst; intro w hst); (try simp only [pz, pn, sz, sc, W2, he0, W3]); refine re ?_
    refine r1 7 ?_; (refine kf gf37 hst (hem) rfl rfl rfl rfl ?_; clear hst; intro w hst); (try simp only [pz, pn, sz, sc, W2, he0, W3]); refine re ?_
    refine r1 9 ?_; (refine kf gf25 hst (hpr) rfl rfl rfl rfl ?_; clear hst; intro w hst); (try simp only [pz, pn, sz, sc, W2, he0, W3]); refine re ?_
    refine r0 10 ?_; simp only [pz, pn, sz, sc, W2, he0, W3]
    refine r0 11 ?_; simp only [pz, pn, sz, sc, W2, he0, W3]
    refine r0 12 ?_ (hy := yB (tb46_021 _ _ _)); simp only [pz, pn, sz, sc, W2, he0, W3]
    refine r1 14 ?_; (refine kt hst ta46 rfl rfl ?_; clear hst; intro w hst); (try simp only [pz, pn, sz, sc, W2, he0, W3]); refine re ?_
    refine rd_ ?_
    rotate_right 4
    all_goals
      go_wp2_with ((first | (refine kf gf25 hst (hpr) rfl rfl rfl rfl ?_; clear hst; intro w hst)); try simp only [pz, pn, sz, sc])
      refine wp_region_T 13  hst (by kernel_rfl) ?_; clear hst; intro w hst; (try simp only [List.length_cons, List.length_nil, Nat.reduceAdd, Array.replicate_succ, Array.replicate_zero, List.push_toArray, List.nil_append, List.cons_append])
      refine r0 0 ?_; simp only [pz, pn, sz, sc, Q1, Q2, Q5, Q6, P1, P2, P3, P4]
      refine r0 1 ?_; simp only [pz, pn, sz, sc, Q1, Q2, Q5, Q6, P1, P2, P3, P4]
      refine r0 2 ?_; simp only [pz, pn, sz, sc, Q1, Q2, Q5, Q6, P1, P2, P3, P4]
      refine r0 3 ?_; simp only [pz, pn, sz, sc, Q1, Q2, Q5, Q6, P1, P2, P3, P4]
      refine r0 4 ?_; simp only [pz, pn, sz, sc, Q1, Q2, Q5, Q6, P1, P2, P3, P4]
      refine r0 5 ?_; simp only [pz, pn, sz, sc, Q1, Q2, Q5, Q6, P1, P2, P3, P4]
      refine r0 7 ?_; simp only [pz, pn, sz, sc, Q1, Q2, Q5, Q6, P1, P2, P3, P4]
      refine r0 8 ?_; simp only [pz, pn, sz, sc, Q1, Q2, Q5, Q6, P1, P2, P3, P4]
      refine r0 9 ?_; simp only [pz, pn, sz, sc, Q1, Q2, Q5, Q6, P1, P2, P3, P4]
      refine r0 11 ?_; simp only [pz, pn, sz, sc, Q1, Q2, Q5, Q6, P1, P2, P3, P4]
      refine rl 6 rfl ?_ (ylC tc22); simp only [pz, pn, sz, sc, Q1, Q2, Q5, Q6, P1, P2, P3, P4]
      refine r0 10 ?_; simp only [pz, pn, sz, sc, Q1, Q2, Q5, Q6, P1, P2, P3, P4]
      refine r0 12 ?_; simp only [pz, pn, sz, sc, Q1, Q2, Q5, Q6, P1, P2, P3, P4]
      refine r1 13 ?_; (refine ks hst tc22 rfl rfl ?_; clear hst; intro w hst; (try rw [hsq.out, hP5.out, hset.out] at hst)); (try simp only [pz, pn, sz, sc, Q1, Q2, Q5, Q6, P1, P2, P3, P4]); refine re ?_
      refine rd_ ?_
      all_goals
        go_wp2_with ((first | (refine kt hst ta46 rfl rfl ?_; clear hst; intro w hst; (try rw [hs1.out] at hst)) | (refine kc hst tc3 rfl ?_) | (refine ks hst tc3 rfl rfl ?_; clear hst; intro w hst; (try rw [hs1.out] at hst)) | (refine kl hst ta46 rfl ?_)); try simp only [pz, pn, sz, sc])
        refine bp_c rfl rfl (la hst ta46) ⟨?_, hst.keeps⟩
        rfl

end Go.Proofs.YtefpoconpeggpaaGreatDoor.Rd

namespace Go.Proofs.YtefpoconpeggpaaGreatDoor.Rd
set_option linter.unusedVariables false

theorem bl_mul_pow (a x : Nat) (h : a ≠ 0) : bl (a * 2 ^ x) = bl a + x := by
  have h1 := (bl_spec a).1
  have h2 := bl_lo h
  have h3 := bl_pos h
  obtain ⟨k, hk⟩ : ∃ k, bl a = k + 1 := ⟨bl a - 1, by omega⟩
  rw [hk] at h1 h2 ⊢
  rw [Nat.add_sub_cancel] at h2
  have hp : 0 < 2 ^ x := Nat.pow_pos (by omega)
  rw [show k + 1 + x = (k + x) + 1 by omega]
  apply bl_range
  · rw [Nat.pow_add]; exact Nat.mul_le_mul_right _ h2
  · rw [show k + x + 1 = (k + 1) + x by omega, Nat.pow_add]; exact Nat.mul_lt_mul_of_pos_right h1 hp

/-- a times 2^ea against b times 2^eb, without signs: below 0, 0, above 0. -/
def szC (a : Nat) (ea : Int) (b : Nat) (eb : Int) : Int :=
  if bl a = 0 ∨ bl b = 0 then min (bl a : Int) 1 - min (bl b : Int) 1
  else if ea + bl a ≠ eb + bl b then ea + bl a - eb - bl b
  else if a * 2 ^ (ea - min ea eb).toNat < b * 2 ^ (eb - min ea eb).toNat then -1 else if b * 2 ^ (eb - min ea eb).toNat < a * 2 ^ (ea - min ea eb).toNat then 1 else 0

theorem lt_of_bl {a b : Nat} (h : bl a < bl b) : a < b := by
  have h1 := (bl_spec a).1
  have hb : b ≠ 0 := fun e => by rw [e, bl_zero] at h; omega
  have h2 := bl_lo hb
  have h3 : 2 ^ bl a ≤ 2 ^ (bl b - 1) := Nat.pow_le_pow_right (by omega) (by omega)
  omega
theorem szC_sign (a : Nat) (ea : Int) (b : Nat) (eb : Int) :
    (szC a ea b eb < 0 ↔ a * 2 ^ (ea - min ea eb).toNat < b * 2 ^ (eb - min ea eb).toNat) ∧ (szC a ea b eb = 0 ↔ a * 2 ^ (ea - min ea eb).toNat = b * 2 ^ (eb - min ea eb).toNat) := by
  have hpa : 0 < 2 ^ (ea - min ea eb).toNat := Nat.pow_pos (by omega)
  have hpb : 0 < 2 ^ (eb - min ea eb).toNat := Nat.pow_pos (by omega)
  unfold szC
  by_cases ha : a = 0
  · subst ha
    rw [bl_zero, if_pos (.inl rfl), Nat.zero_mul]
    by_cases hb : b = 0
    · subst hb; rw [bl_zero, Nat.zero_mul]; simp
    · have h1 := bl_pos hb
      have h2 : 0 < b * 2 ^ (eb - min ea eb).toNat := Nat.mul_pos (by omega) hpb
      constructor <;> constructor <;> intro h <;> omega
  · have h1 := bl_pos ha
    by_cases hb : b = 0
    · subst hb
      rw [bl_zero, if_pos (.inr rfl), Nat.zero_mul]
      have h2 : 0 < a * 2 ^ (ea - min ea eb).toNat := Nat.mul_pos (by omega) hpa
      constructor <;> constructor <;> intro h <;> omega
    · have h2 := bl_pos hb
      rw [if_neg (by omega)]
      by_cases hd : ea + bl a ≠ eb + bl b
      · rw [if_pos hd]
        have e1 := bl_mul_pow a (ea - min ea eb).toNat ha
        have e2 := bl_mul_pow b (eb - min ea eb).toNat hb
        rcases Int.lt_or_lt_of_ne hd with h | h
        · have := lt_of_bl (a := a * 2 ^ (ea - min ea eb).toNat) (b := b * 2 ^ (eb - min ea eb).toNat) (by rw [e1, e2]; omega)
          constructor <;> constructor <;> intro h' <;> omega
        · have := lt_of_bl (a := b * 2 ^ (eb - min ea eb).toNat) (b := a * 2 ^ (ea - min ea eb).toNat) (by rw [e1, e2]; omega)
          constructor <;> constructor <;> intro h' <;> omega
      · rw [if_neg hd]
        split
        · constructor <;> constructor <;> intro h' <;> omega
        · split
          · constructor <;> constructor <;> intro h' <;> omega
          · constructor <;> constructor <;> intro h' <;> omega

/-- The same at any exponent that isn't above. -/
theorem scale_lt (a b : Nat) (ea eb l : Int) (h1 : l ≤ ea) (h2 : l ≤ eb) : (a * 2 ^ (ea - min ea eb).toNat < b * 2 ^ (eb - min ea eb).toNat ↔ a * 2 ^ (ea - l).toNat < b * 2 ^ (eb - l).toNat) ∧ (a * 2 ^ (ea - min ea eb).toNat = b * 2 ^ (eb - min ea eb).toNat ↔ a * 2 ^ (ea - l).toNat = b * 2 ^ (eb - l).toNat) := by
  obtain ⟨x, hx⟩ : ∃ x, x = (min ea eb - l).toNat := ⟨_, rfl⟩
  have e1 : (ea - l).toNat = (ea - min ea eb).toNat + x := by omega
  have e2 : (eb - l).toNat = (eb - min ea eb).toNat + x := by omega
  rw [e1, e2, Nat.pow_add, Nat.pow_add, ← Nat.mul_assoc, ← Nat.mul_assoc]
  have hp : 0 < 2 ^ x := Nat.pow_pos (by omega)
  generalize a * 2 ^ (ea - min ea eb).toNat = u
  generalize b * 2 ^ (eb - min ea eb).toNat = v
  exact ⟨(Nat.mul_lt_mul_right hp).symm, ⟨fun h => by rw [h], fun h => Nat.eq_of_mul_eq_mul_right hp h⟩⟩

end Go.Proofs.YtefpoconpeggpaaGreatDoor.Rd

namespace Go.Proofs.YtefpoconpeggpaaGreatDoor.Rd
open Go Go.RowKit
set_option linter.unusedVariables false
set_option linter.unusedSimpArgs false
set_option maxRecDepth 100000

theorem or_low' (a b s : Nat) (ha : a * 2 ^ s < B) (hb : b < 2 ^ s) (hB : b < B) : bits .or .u64 (b : Int) ((a * 2 ^ s : Nat) : Int) = ((b + a * 2 ^ s : Nat) : Int) := by
  rw [bits_or_u64_nat _ _ (by rw [← B_val]; exact hB) (by rw [← B_val]; exact ha)]
  congr 1
  rw [Nat.or_comm, Nat.mul_comm, Nat.add_comm b, Nat.two_pow_add_eq_or_of_lt hb]

theorem two_pow_32 (k : Nat) : 2 ^ k = C ^ (k / 32) * 2 ^ (k % 32) := by
  rw [C_pow, ← Nat.pow_add]
  congr 1
  omega
end Go.Proofs.YtefpoconpeggpaaGreatDoor.Rd

namespace Go.Proofs.YtefpoconpeggpaaGreatDoor.Rd
open Go Go.RowKit
set_option linter.unusedVariables false
set_option linter.unusedSimpArgs false
set_option maxRecDepth 100000

theorem uc_zeros (q : Nat) : uc q 0 ++ [.int .u32 0] = uc (q + 1) 0 := by
  have := uc_snoc 0 0 q (Cp_pos q) C_pos
  simpa using this

set_option maxHeartbeats 8000000 in
theorem ref01_Shl (va : Value) (la a k : Nat) (w0 : World) (ha : BigAt w0 va la a) (hla : la ≤ 100000) (hk : k ≤ 100000) : GivesB Tryz.prog 18 #[va, .int .i64 k] (a * 2 ^ k) w0 := by
  have hst := St.start [] w0
  have hda := fun (i : Nat) (hi : i ≤ 1000000) (w : World) (hst : Keeps [] w0 w) => ref01_digit va la a i hi w (ha.keep hst)
  obtain ⟨han, _, aa, capa, rfl, _, _⟩ := ha
  obtain ⟨q, hq⟩ : ∃ q, q = k / 32 := ⟨_, rfl⟩
  obtain ⟨r, hr⟩ : ∃ r, r = k % 32 := ⟨_, rfl⟩
  have hm : a * 2 ^ k = a * 2 ^ r * C ^ q := by rw [two_pow_32 k, ← hq, ← hr, Nat.mul_assoc, Nat.mul_comm (C ^ q)]
  have Q1 : (k : Int) / 32 = (q : Int) := by omega
  have Q2 : (k : Int) % 32 = (r : Int) := by omega
  have Q3 : (0 : Int) ≤ (k : Int) := by omega
  have hr32 : r < 32 := by omega
  have hqk : q ≤ 100000 := by omega
  have hr1 : (0 : Int) ≤ (r : Int) := by omega
  have hr2 : (r : Int) < 32 := by omega
  rw [hm]
  have hm' := Lib.hid hm
  clear hq hr hm
  go_enter Tryz.func18, Tryz.ntmps18
  go_wp2_with fail
  go_loopw [6, 5] (fun vi vo wr => ∃ (j : Nat) (Lg : List (Nat × Obj)), j ≤ q ∧ vi = .int .i64 j ∧ GRow w0 Lg 72 1 vo j (uc j 0) ∧ St w0 [] Lg wr) (fun vi _ _ => q - (intOf vi).toNat)
  case atStart => exact ⟨0, [], by omega, by go_num, GRow.nil _ _ _, hst⟩
  case round =>
    clear hst
    obtain ⟨j, Lg, hj, rfl, hgr, hst⟩ := hrel
    by_cases hlt : j < q
    · have hz := Lib.hid (uc_zeros j)
      have hjq : (j : Int) < (q : Int) := by omega
      have hjj : j < 200000 := by omega
      go_wp2_with ((first | (refine wl_append1 (bytes := 4) (o := ⟨some 17, _, _, _, _, _⟩) hgr hst ts39 te72 (show BytesT _ _ _ by unfold BytesT; kernel_rfl) rfl rfl (by rfl) (by rfl) (by repeat (first | exact Tl.here | apply Tl.there)) (by rfl) (by rfl) (by omega) (by omega) ?_; clear hst hgr; intro v17 Lg w hgr hst; (try simp only [List.cons_append, List.nil_append] at hst); (try simp only [pz, pn, sz, sc])) | (refine wl_slice1 (o := ⟨some 16, _, _, _, _, _⟩) hst ts39 te72 rfl rfl (by (simp only [eval_lit, eval_k, eval_f, eval_g, List.getD_cons_succ, List.getD_cons_zero]) <;> rfl) (by rfl) ?_; clear hst; intro b16 w hb16 hst)); try simp only [pz, pn, sz, sc])
      refine ⟨⟨j + 1, _, by omega, by go_num, by rw [← hz.out]; exact hgr, hst⟩, ?_⟩
      simp [intOf]; omega
    · have hje : j = q := by omega
      subst hje
      have hjq : ¬ ((j : Int) < (j : Int)) := by omega
      clear hlt hj
      go_wp2_with fail
      go_loopw [8, 7, 5] (fun vi vc vo wr => ∃ (i c s : Nat) (Lg : List (Nat × Obj)), i ≤ la + 1 ∧ vi = .int .i64 i ∧ vc = .int .u64 c ∧ c < 2 ^ r ∧ s < C ^ i ∧ s + c * C ^ i = a % C ^ i * 2 ^ r ∧ GRow w0 Lg 72 1 vo (j + i) (uc (j + i) (s * C ^ j)) ∧ St w0 [] Lg wr) (fun vi _ _ _ => la + 1 - (intOf vi).toNat)
      case atStart => exact ⟨0, 0, 0, Lg, by omega, rfl, rfl, Nat.pow_pos (by omega), by simp, by simp [Nat.mod_one], by simpa using hgr, hst⟩
      case round =>
        clear hst hgr
        obtain ⟨i, c, s, Lg, hi, rfl, rfl, hc, hs, he, hgr, hst⟩ := hrel
        by_cases hle : i ≤ la
        · have hdai := hda i (by omega)
          have hsa := dg_split a i
          have hx := dg_lt a i
          generalize dg a i = x at *
          obtain ⟨Z, hZ⟩ : ∃ Z, Z = x * 2 ^ r := ⟨_, rfl⟩
          obtain ⟨t2, ht2⟩ : ∃ t2, t2 = c + x * 2 ^ r := ⟨_, rfl⟩
          obtain ⟨d, hd⟩ : ∃ d, d = t2 % C := ⟨_, rfl⟩
          obtain ⟨p, hp⟩ : ∃ p, p = t2 / C := ⟨_, rfl⟩
          have hdC : d < C := by rw [hd]; exact Nat.mod_lt _ C_pos
          have hpr : C * p + d = t2 := by rw [hp, hd]; exact Nat.div_add_mod _ _
          have h2r : 2 ^ r ≤ 2 ^ 31 := Nat.pow_le_pow_right (by omega) (by omega)
          have htC : t2 < C * 2 ^ r := by
            have : (x + 1) * 2 ^ r ≤ C * 2 ^ r := Nat.mul_le_mul_right _ hx
            rw [Nat.add_mul, Nat.one_mul] at this
            omega
          have htB : t2 < B := by
            have : C * 2 ^ r ≤ C * 2 ^ 31 := Nat.mul_le_mul_left _ h2r
            rw [C_val] at this htC
            rw [B_val]; omega
          have hp2 : p < 2 ^ r := by
            rw [hp, Nat.div_lt_iff_lt_mul C_pos, Nat.mul_comm]; exact htC
          have hsl := add_lt_C s d i hs hdC
          have hsC : s * C ^ j < C ^ (j + i) := by
            rw [Nat.pow_add, Nat.mul_comm]
            exact Nat.mul_lt_mul_of_pos_left hs (Cp_pos j)
          have hsn := uc_snoc (s * C ^ j) d (j + i) hsC hdC
          have hse : s * C ^ j + d * C ^ (j + i) = (s + d * C ^ i) * C ^ j := by
            rw [Nat.add_mul, Nat.mul_assoc d, ← Nat.pow_add, Nat.add_comm i]
          rw [hse] at hsn
          have he' : s + d * C ^ i + p * C ^ (i + 1) = a % C ^ (i + 1) * 2 ^ r := by
            rw [hsa, Nat.add_mul]
            have e2 : p * C ^ (i + 1) + d * C ^ i = t2 * C ^ i := by
              rw [← hpr, Nat.add_mul, Nat.pow_succ', ← Nat.mul_assoc, Nat.mul_comm p]
            have e3 : t2 * C ^ i = c * C ^ i + x * C ^ i * 2 ^ r := by
              rw [ht2, Nat.add_mul, Nat.mul_right_comm]
            omega
          have hZB : x * 2 ^ r < B := by omega
          have F0 : IntKind.u64.wrap ((x : Int) * 2 ^ r) = (Z : Int) := u64_wrap' _ Z _ (by rw [hZ, cast_pow2]; exact (Int.natCast_mul _ _).symm) (Nat.mod_eq_of_lt (by rw [hZ]; exact hZB))
          have F1 : bits .or .u64 (c : Int) (Z : Int) = (t2 : Int) := by
            have := or_low' x c r hZB hc (by omega)
            rw [hZ, ht2]; exact this
          have F3 : IntKind.u32.wrap (t2 : Int) = (d : Int) := by rw [u32_wrap, hd]
          have F4 : (t2 : Int) / 4294967296 = (p : Int) := by rw [C_val] at hp; omega
          have hsn' := Lib.hid hsn
          have he'' := Lib.hid he'
          have hp2' := Lib.hid hp2
          have hi1 : (i : Int) ≤ (la : Int) := by omega
          have hi2 : i ≤ 100000 := by omega
          have hji : j + i ≤ 200000 := by omega
          clear he hsa hx hZ ht2 hd hp hdC hpr h2r htC htB hsC hse hsn he' hs hc hle hi hZB hp2
          go_wp2_with ((first | (refine kg gf40 hst (fun w hst => hdai w hst.keeps) rfl rfl rfl rfl ?_; clear hst; intro w hst) | (refine wl_append1 (bytes := 4) (o := ⟨some 36, _, _, _, _, _⟩) hgr hst ts39 te72 (show BytesT _ _ _ by unfold BytesT; kernel_rfl) rfl rfl (by rfl) (by rfl) (by repeat (first | exact Tl.here | apply Tl.there)) (by rfl) (by rfl) (by omega) (by omega) ?_; clear hst hgr; intro v36 Lg w hgr hst; (try simp only [List.cons_append, List.nil_append] at hst); (try simp only [pz, pn, sz, sc])) | (refine wl_slice1 (o := ⟨some 35, _, _, _, _, _⟩) hst ts39 te72 rfl rfl (by (simp only [eval_lit, eval_k, eval_f, eval_g, List.getD_cons_succ, List.getD_cons_zero]) <;> rfl) (by rfl) ?_; clear hst; intro b35 w hb35 hst)); try simp only [pz, pn, sz, sc])
          refine ⟨⟨i + 1, p, s + d * C ^ i, _, by omega, by go_num, rfl, hp2'.out, hsl, he''.out, by rw [show j + (i + 1) = j + i + 1 by omega, ← hsn'.out]; exact hgr, hst⟩, ?_⟩
          simp [intOf]; omega
        · have hie : i = la + 1 := by omega
          subst hie
          have h31 : 2 ^ r < C := Nat.pow_lt_pow_right (n := 32) (by omega) (by omega)
          have hbig : a * 2 ^ r < C ^ (la + 1) := by
            rw [Nat.pow_succ]
            exact Nat.mul_lt_mul'' han h31
          rw [Nat.mod_eq_of_lt (show a < C ^ (la + 1) from Nat.lt_of_lt_of_le han (Nat.pow_le_pow_right C_pos (by omega)))] at he
          have hc0 : c = 0 := by
            rcases Nat.eq_zero_or_pos c with h | h
            · exact h
            · have : 1 * C ^ (la + 1) ≤ c * C ^ (la + 1) := Nat.mul_le_mul_right _ h
              omega
          subst hc0
          rw [Nat.zero_mul, Nat.add_zero] at he
          rw [he] at hgr hs
          have hsC : a * 2 ^ r * C ^ j < C ^ (j + (la + 1)) := by
            rw [Nat.pow_add, Nat.mul_comm]
            exact Nat.mul_lt_mul_of_pos_left hs (Cp_pos j)
          obtain ⟨ao, co, rfl, hat, hbi⟩ := hgr.big (L := Lg) hsC (by omega) (fun x h => h)
          have htr := fun w hst => ref01_trim ao (j + (la + 1)) co _ w (hat [] w hst)
          have hi1 : ¬ ((la : Int) + 1 ≤ (la : Int)) := by omega
          have hi2 : ((la + 1 : Nat) : Int) = (la : Int) + 1 := by omega
          rw [hi2]
          generalize j + (la + 1) = J at *
          generalize a * 2 ^ r * C ^ j = V at *
          clear hs he hi hle hi2 hat hgr hsC hbig h31
          go_wp2_with ((first | (refine kg gf41 hst (htr) rfl rfl rfl rfl ?_; clear hst; intro w hst)); try simp only [pz, pn, sz, sc])
          refine bp_t rfl rfl (by rfl) (PostB.of hst hbi (fun x h => h))

end Go.Proofs.YtefpoconpeggpaaGreatDoor.Rd
