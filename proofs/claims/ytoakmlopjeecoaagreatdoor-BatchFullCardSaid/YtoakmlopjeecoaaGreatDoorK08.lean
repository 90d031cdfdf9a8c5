/- What the methods of a set that isn't there answer. -/
import Derived.Test.YtoakmlopjeecoaaGreatDoorK07
import Derived.Test.YtoakmlopjeecoaaGreatDoorK03
import Derived.Laws.Strings
namespace Go.Proofs.YtoakmlopjeecoaaGreatDoor.Rd
open Go Go.RowKit
set_option linter.unusedVariables false
set_option linter.unusedSimpArgs false
set_option maxRecDepth 100000

theorem bp_tc {P : Program} {fn : Func} {R : Ending → World → Prop} {a : Act} {w : World} {p q : Tmp} {T : TypeId} {v u : Value} (h : fn.results = #[.tmp q, .cell p T]) (hd : a.defers = []) (h2 : a.tmps.getD q undef = u) (h1 : LV P w a p T v) (hR : R (.returned (.tuple #[u, v])) w) : bodyPost P fn R .ret a w := by
  obtain ⟨ad, h1, h3⟩ := h1
  subst h2
  refine bodyPost_ret (v := .tuple #[a.tmps.getD q undef, v]) ?_ hd hR
  simp only [results, h]
  simp only [Array.getD_eq_getD_getElem?] at h1
  simp [Sem.run_bind, Result.andThen, h1, asAddr, h3]

set_option maxHeartbeats 4000000 in
theorem format_word (f : Nat) (h1 : 1 ≤ f) (h4 : f ≤ 4) (ng : Bool) (g : FuncId) (hg : GoF Tryz.prog g) (fld fr : Nat) (hf : fld ≤ 2 * fE f + 1) (hfr : fr < 2 ^ (fP f - 1)) (hgv : Gives Tryz.prog g #[.agg (fmC f)] (.tuple #[.int .i64 fld, W fr])) (w0 : World) (hF : FmtIn w0) :
    GivesAt Tryz.prog 92 #[.int .i64 f, .bool ng, .func (.func g) #[] #[]] (Wd (mkW f ng fld fr)) w0 := by
  have hst := St.start [] w0
  have hk := Lib.hid (fun w (k : Keeps [] w0 w) => hF.keep k (by simp))
  have hof := fun w h => format_Of f h1 h4 w h
  have hP := fP_in f
  have hE := fE_in f
  have hB := fB_in f
  have hpM : 2 ^ (fP f - 1) < M := small_M2 _ (by omega)
  have hfM : fr < M := Nat.lt_trans hfr hpM
  have hbl : bl fr ≤ fP f - 1 := bl_le.2 hfr
  have hfB : fld < B := by rw [B_val]; omega
  have hwo := of_u64 fld hfB
  have h1' := Lib.hid (wc_1 fld hfB)
  have hx : fr + fld * 2 ^ (fP f - 1) < 2 ^ (fB f - 1) := by
    have e : 2 ^ (fB f - 1) = 2 ^ fK f * 2 ^ (fP f - 1) := by rw [← Nat.pow_add, fBPK]; congr 1; omega
    rw [e, ← fE_pow]
    have : (fld + 1) * 2 ^ (fP f - 1) ≤ (2 * fE f + 2) * 2 ^ (fP f - 1) := Nat.mul_le_mul_right _ (by omega)
    rw [Nat.add_mul, Nat.one_mul] at this
    omega
  have hbM : 2 ^ (fB f - 1) < M := small_M2 _ (by omega)
  have hshl := wide_Shl fld (fP f - 1 : Nat) (Nat.lt_trans hfB (small_M2 64 (by omega)))
  rw [clampN_nat _ (by omega), Nat.mod_eq_of_lt (show fld * 2 ^ (fP f - 1) < M by omega)] at hshl
  have hadd := wide_Add fr (fld * 2 ^ (fP f - 1)) hfM (by omega)
  rw [Nat.mod_eq_of_lt (show fr + fld * 2 ^ (fP f - 1) < M by omega)] at hadd
  have hpw := wide_Power ((fB f : Int) - 1)
  rw [show pow2 ((fB f : Int) - 1) = 2 ^ (fB f - 1) by unfold pow2; rw [if_pos (by omega)]; congr 1; omega] at hpw
  have h2 : 2 ^ (fB f - 1) + 2 ^ (fB f - 1) ≤ M2 := by
    have a : 2 ^ fB f ≤ 2 ^ 128 := Nat.pow_le_pow_right (by omega) hB.2
    have b : 2 ^ fB f = 2 ^ (fB f - 1) + 2 ^ (fB f - 1) := by
      obtain ⟨p, hp⟩ : ∃ p, fB f = p + 1 := ⟨fB f - 1, by omega⟩
      rw [hp, Nat.add_sub_cancel, Nat.pow_succ]; omega
    have c : M2 = 2 ^ 128 := by decide
    omega
  have h2M : M2 ≤ M := by rw [M_eq]; exact Nat.pow_le_pow_right B_pos (by omega)
  have hadd2 := wide_Add (fr + fld * 2 ^ (fP f - 1)) (2 ^ (fB f - 1)) (by omega) hbM
  rw [Nat.mod_eq_of_lt (show fr + fld * 2 ^ (fP f - 1) + 2 ^ (fB f - 1) < M by omega)] at hadd2
  have hlow1 := wide_Low (fr + fld * 2 ^ (fP f - 1))
  rw [Nat.mod_eq_of_lt (by omega)] at hlow1
  have hlow2 := wide_Low (fr + fld * 2 ^ (fP f - 1) + 2 ^ (fB f - 1))
  rw [Nat.mod_eq_of_lt (by omega)] at hlow2
  rw [show ((fP f - 1 : Nat) : Int) = (fP f : Int) - 1 by omega] at hshl
  have hW1 : IntKind.i64.wrap ((fP f : Int) - 1) = (fP f : Int) - 1 := by rw [IntKind.wrap_i64]; omega
  have hW2 : IntKind.i64.wrap ((fB f : Int) - 1) = (fB f : Int) - 1 := by rw [IntKind.wrap_i64]; omega
  have hW3 : IntKind.i64.wrap (2 * (fE f : Int)) = 2 * (fE f : Int) := by rw [IntKind.wrap_i64]; omega
  have hW4 : IntKind.i64.wrap (2 * (fE f : Int) + 1) = 2 * (fE f : Int) + 1 := by rw [IntKind.wrap_i64]; omega
  have hW5 : IntKind.u64.wrap (fld : Int) = (fld : Int) := by rw [u64_wrap, Nat.mod_eq_of_lt hfB]
  have z1 := fmC_size f
  have z2 := fmC_one f
  have g0 : (fmC f)[0]? = some (.int .i64 (fB f : Nat)) := rfl
  have g1 : (fmC f)[0 + 1]? = some (.int .i64 (fP f : Nat)) := rfl
  have g2 : (fmC f)[0 + 2]? = some (.int .i64 (fE f : Nat)) := rfl
  unfold mkW
  clear hF hf hfr hbl hfB hx hbM h2 h2M hpM hfM
  obtain ⟨x2, hx2⟩ : ∃ x2, fr + fld * 2 ^ (fP f - 1) + 2 ^ (fB f - 1) = x2 := ⟨_, rfl⟩
  rw [hx2] at hadd2 hlow2
  generalize fr + fld * 2 ^ (fP f - 1) = x1 at *
  generalize fld * 2 ^ (fP f - 1) = x0 at *
  generalize 2 ^ (fB f - 1) = pb' at *
  generalize fmC f = cs at *
  generalize fP f = p at *
  generalize fE f = E at *
  generalize fB f = bb at *
  cases ng
  · rw [if_neg (by simp), Nat.add_zero]
    clear hx2
    go_enter Tryz.func92, Tryz.ntmps92
    go_wp2_with ((first | (refine kg gf40 hst (fun w hst => hof w (hk.out w hst.keeps)) rfl rfl rfl rfl ?_; clear hst; intro w hst) | (refine kf hg hst (hgv) rfl rfl rfl rfl ?_; clear hst; intro w hst) | (refine ka 6 hst tz24 rfl rfl ?_; clear hst; intro b6 w hb6 hst) | (refine ka 7 hst tz104 rfl rfl ?_; clear hst; intro b7 w hb7 hst) | (refine kt hst ta104 rfl rfl ?_; clear hst; intro w hst) | (refine kl hst ta104 rfl ?_) | (refine ka 10 hst tz109 rfl rfl ?_; clear hst; intro b10 w hb10 hst) | (refine kt hst ta109 rfl rfl ?_; clear hst; intro w hst)); try simp only [pz, pn, sz, sc])
    refine wp_region_T 13  hst (by kernel_rfl) ?_; clear hst; intro w hst; (try simp only [List.length_cons, List.length_nil, Nat.reduceAdd, Array.replicate_succ, Array.replicate_zero, List.push_toArray, List.nil_append, List.cons_append])
    refine r0 1 ?_; simp only [pz, pn, sz, sc, hW1, hW5]
    refine r0 2 ?_; simp only [pz, pn, sz, sc, hW1, hW5]
    refine r0 5 ?_; simp only [pz, pn, sz, sc, hW1, hW5]
    refine rl 0 rfl ?_ (by first | exact ylA ta109 | exact ylM ta109); simp only [pz, pn, sz, sc, hW1, hW5]
    refine rl 6 rfl ?_ (ylC tc3); simp only [pz, pn, sz, sc, hW1, hW5]
    refine r0 7 ?_; simp only [pz, pn, sz, sc, hW1, hW5]
    refine r1 3 ?_; (refine wl_slice1 (o := ⟨some 29, _, _, _, _, _⟩) hst ts128 te22 rfl rfl (by (simp only [eval_lit, eval_k, eval_f, eval_g, List.getD_cons_succ, List.getD_cons_zero]) <;> rfl) (by rfl) ?_; clear hst; intro b29 w hb29 hst); (try simp only [pz, pn, sz, sc, hW1, hW5]); refine re ?_
    refine r1 4 ?_; (refine kg gf53 hst (fun w hst => hwo _ w (by rw [← h1'.out]; exact hst.own _ _ (by repeat (first | exact List.Mem.head _ | refine List.Mem.tail _ ?_)))) rfl rfl rfl rfl ?_; clear hst; intro w hst); (try simp only [pz, pn, sz, sc, hW1, hW5]); refine re ?_
    refine r1 8 ?_; (refine kf gf99 hst (hshl) rfl rfl rfl rfl ?_; clear hst; intro w hst); (try simp only [pz, pn, sz, sc, hW1, hW5]); refine re ?_
    refine r1 9 ?_; (refine kf gf124 hst (hadd) rfl rfl rfl rfl ?_; clear hst; intro w hst); (try simp only [pz, pn, sz, sc, hW1, hW5]); refine re ?_
    refine r0 10 ?_; simp only [pz, pn, sz, sc, hW1, hW5]
    refine r0 11 ?_; simp only [pz, pn, sz, sc, hW1, hW5]
    refine r0 12 ?_; simp only [pz, pn, sz, sc, hW1, hW5]
    refine r1 13 ?_; (refine kt hst ta109 rfl rfl ?_; clear hst; intro w hst); (try simp only [pz, pn, sz, sc, hW1, hW5]); refine re ?_
    refine rd_ ?_
    all_goals
      go_wp2_with ((first | (refine kf gf127 hst (hlow1) rfl rfl rfl rfl ?_; clear hst; intro w hst) | (refine kt hst ta24 rfl rfl ?_; clear hst; intro w hst) | (refine kl hst ta109 rfl ?_)); try simp only [pz, pn, sz, sc])
      refine bp_c rfl rfl (la hst ta24) ⟨?_, hst.keeps⟩
      rfl
  · rw [if_pos rfl, hx2]
    clear hx2
    go_enter Tryz.func92, Tryz.ntmps92
    go_wp2_with ((first | (refine kg gf40 hst (fun w hst => hof w (hk.out w hst.keeps)) rfl rfl rfl rfl ?_; clear hst; intro w hst) | (refine kf hg hst (hgv) rfl rfl rfl rfl ?_; clear hst; intro w hst) | (refine ka 6 hst tz24 rfl rfl ?_; clear hst; intro b6 w hb6 hst) | (refine ka 7 hst tz104 rfl rfl ?_; clear hst; intro b7 w hb7 hst) | (refine kt hst ta104 rfl rfl ?_; clear hst; intro w hst) | (refine kl hst ta104 rfl ?_) | (refine ka 10 hst tz109 rfl rfl ?_; clear hst; intro b10 w hb10 hst) | (refine kt hst ta109 rfl rfl ?_; clear hst; intro w hst)); try simp only [pz, pn, sz, sc])
    refine wp_region_T 13  hst (by kernel_rfl) ?_; clear hst; intro w hst; (try simp only [List.length_cons, List.length_nil, Nat.reduceAdd, Array.replicate_succ, Array.replicate_zero, List.push_toArray, List.nil_append, List.cons_append])
    refine r0 1 ?_; simp only [pz, pn, sz, sc, hW1, hW5]
    refine r0 2 ?_; simp only [pz, pn, sz, sc, hW1, hW5]
    refine r0 5 ?_; simp only [pz, pn, sz, sc, hW1, hW5]
    refine rl 0 rfl ?_ (by first | exact ylA ta109 | exact ylM ta109); simp only [pz, pn, sz, sc, hW1, hW5]
    refine rl 6 rfl ?_ (ylC tc3); simp only [pz, pn, sz, sc, hW1, hW5]
    refine r0 7 ?_; simp only [pz, pn, sz, sc, hW1, hW5]
    refine r1 3 ?_; (refine wl_slice1 (o := ⟨some 29, _, _, _, _, _⟩) hst ts128 te22 rfl rfl (by (simp only [eval_lit, eval_k, eval_f, eval_g, List.getD_cons_succ, List.getD_cons_zero]) <;> rfl) (by rfl) ?_; clear hst; intro b29 w hb29 hst); (try simp only [pz, pn, sz, sc, hW1, hW5]); refine re ?_
    refine r1 4 ?_; (refine kg gf53 hst (fun w hst => hwo _ w (by rw [← h1'.out]; exact hst.own _ _ (by repeat (first | exact List.Mem.head _ | refine List.Mem.tail _ ?_)))) rfl rfl rfl rfl ?_; clear hst; intro w hst); (try simp only [pz, pn, sz, sc, hW1, hW5]); refine re ?_
    refine r1 8 ?_; (refine kf gf99 hst (hshl) rfl rfl rfl rfl ?_; clear hst; intro w hst); (try simp only [pz, pn, sz, sc, hW1, hW5]); refine re ?_
    refine r1 9 ?_; (refine kf gf124 hst (hadd) rfl rfl rfl rfl ?_; clear hst; intro w hst); (try simp only [pz, pn, sz, sc, hW1, hW5]); refine re ?_
    refine r0 10 ?_; simp only [pz, pn, sz, sc, hW1, hW5]
    refine r0 11 ?_; simp only [pz, pn, sz, sc, hW1, hW5]
    refine r0 12 ?_; simp only [pz, pn, sz, sc, hW1, hW5]
    refine r1 13 ?_; (refine kt hst ta109 rfl rfl ?_; clear hst; intro w hst); (try simp only [pz, pn, sz, sc, hW1, hW5]); refine re ?_
    refine rd_ ?_
    all_goals
      go_wp2_with fail
      refine wp_region_T 9  hst (by kernel_rfl) ?_; clear hst; intro w hst; (try simp only [List.length_cons, List.length_nil, Nat.reduceAdd, Array.replicate_succ, Array.replicate_zero, List.push_toArray, List.nil_append, List.cons_append])
      refine r0 1 ?_; simp only [pz, pn, sz, sc, hW2]
      refine rl 0 rfl ?_ (by first | exact ylA ta109 | exact ylM ta109); simp only [pz, pn, sz, sc, hW2]
      refine rl 2 rfl ?_ (ylC tc3); simp only [pz, pn, sz, sc, hW2]
      refine r0 3 ?_; simp only [pz, pn, sz, sc, hW2]
      refine r1 4 ?_; (refine kf gf125 hst (hpw) rfl rfl rfl rfl ?_; clear hst; intro w hst); (try simp only [pz, pn, sz, sc, hW2]); refine re ?_
      refine r1 5 ?_; (refine kf gf124 hst (hadd2) rfl rfl rfl rfl ?_; clear hst; intro w hst); (try simp only [pz, pn, sz, sc, hW2]); refine re ?_
      refine r0 6 ?_; simp only [pz, pn, sz, sc, hW2]
      refine r0 7 ?_; simp only [pz, pn, sz, sc, hW2]
      refine r0 8 ?_; simp only [pz, pn, sz, sc, hW2]
      refine r1 9 ?_; (refine kt hst ta109 rfl rfl ?_; clear hst; intro w hst); (try simp only [pz, pn, sz, sc, hW2]); refine re ?_
      refine rd_ ?_
      all_goals
        go_wp2_with ((first | (refine kf gf127 hst (hlow2) rfl rfl rfl rfl ?_; clear hst; intro w hst) | (refine kt hst ta24 rfl rfl ?_; clear hst; intro w hst) | (refine kl hst ta109 rfl ?_)); try simp only [pz, pn, sz, sc])
        refine bp_c rfl rfl (la hst ta24) ⟨?_, hst.keeps⟩
        rfl

theorem W_nought : W 0 = .agg #[.int .u64 0, .int .u64 0, .int .u64 0, .int .u64 0, .int .u64 0, .int .u64 0, .int .u64 0, .int .u64 0] := by kernel_rfl
theorem format_ones (f : Nat) : Gives Tryz.prog 94 #[.agg (fmC f)] (.int .i64 ((2 * fE f + 1 : Nat) : Int)) := by
  intro w0
  have hst := St.start [] w0
  have hE := fE_in f
  have z1 := fmC_size f
  have z2 := fmC_one f
  have g2 : (fmC f)[0 + 2]? = some (.int .i64 (fE f : Nat)) := rfl
  rw [show ((2 * fE f + 1 : Nat) : Int) = 2 * (fE f : Int) + 1 by omega]
  generalize fmC f = cs at *
  generalize fE f = E at *
  go_enter Tryz.func94, Tryz.ntmps94
  go_wp2_with ((first | (refine kb 1 hst rfl rfl ?_; clear hst; intro b1 w hb1 hst) | (refine kc hst tc3 rfl ?_)); try simp only [pz, pn, sz, sc])
  refine bp_t rfl rfl (by rfl) ⟨?_, hst.keeps⟩
  rfl
theorem format_Inf_1 (f : Nat) : Gives Tryz.prog 93 #[.agg (fmC f)] (.tuple #[.int .i64 ((2 * fE f + 1 : Nat) : Int), W 0]) := by
  intro w0
  have hst := St.start [] w0
  have ho := format_ones f
  have z1 := fmC_size f
  have z2 := fmC_one f
  generalize fmC f = cs at *
  generalize ((2 * fE f + 1 : Nat) : Int) = x at *
  go_enter Tryz.func93, Tryz.ntmps93
  go_wp2_with ((first | (refine kf gf94 hst (ho) rfl rfl rfl rfl ?_; clear hst; intro w hst) | (refine kb 1 hst rfl rfl ?_; clear hst; intro b1 w hb1 hst) | (refine ka 3 hst tz109 rfl rfl ?_; clear hst; intro b3 w hb3 hst) | (refine kl hst ta104 rfl ?_) | (refine kt hst ta109 rfl rfl ?_; clear hst; intro w hst)); try simp only [pz, pn, sz, sc])
  refine bp_tc rfl rfl (by rfl) (la hst ta109) ⟨?_, hst.keeps⟩
  rw [W_nought]; rfl
theorem mkW_inf (f : Nat) (ng : Bool) : mkW f ng (2 * fE f + 1) 0 = infW f ng := by unfold mkW infW; rw [Nat.zero_add]
theorem format_Inf (f : Nat) (h1 : 1 ≤ f) (h4 : f ≤ 4) (ng : Bool) (w0 : World) (hF : FmtIn w0) : GivesAt Tryz.prog 59 #[.int .i64 f, .bool ng] (Wd (infW f ng)) w0 := by
  have hst := St.start [] w0
  have hk := Lib.hid (fun w (k : Keeps [] w0 w) => hF.keep k (by simp))
  have hw := fun w h => format_word f h1 h4 ng 93 gf93 (2 * fE f + 1) 0 (by omega) (Nat.pow_pos (by omega)) (format_Inf_1 f) w h
  rw [mkW_inf] at hw
  clear hF h1 h4
  generalize infW f ng = x at *
  go_enter Tryz.func59, Tryz.ntmps59
  go_wp2_with ((first | (refine kg gf92 hst (fun w hst => hw w (hk.out w hst.keeps)) rfl rfl rfl rfl ?_; clear hst; intro w hst) | (refine ka 4 hst tz24 rfl rfl ?_; clear hst; intro b4 w hb4 hst) | (refine kt hst ta24 rfl rfl ?_; clear hst; intro w hst)); try simp only [pz, pn, sz, sc])
  refine bp_c rfl rfl (la hst ta24) ⟨?_, hst.keeps⟩
  rfl
end Go.Proofs.YtoakmlopjeecoaaGreatDoor.Rd

namespace Go.Proofs.YtoakmlopjeecoaaGreatDoor.Rd
open Go Go.RowKit
set_option linter.unusedVariables false
set_option linter.unusedSimpArgs false
set_option maxRecDepth 100000

section
variable {P : Program} {Q : Exit → Act → World → Prop} {md : Region.Mode} {V : World → Prop} {n : Nat} {a : Act} {w : World} {fuel : Nat} {listed : Array Bool} {l rs rs' rs2 : List Oper} {oi oj ok : Oper}
/-- Three may come up. -/
theorem r3 (i j k : Nat) (h : wpList P l.toArray (Exit.then (fun a' w' => ((listed.setIfInBounds i true).getD n false = true ∨ V w') ∧ anyT P md l.toArray Q n V fuel (listed.setIfInBounds i true) a' w') Q) [oi] a w)
    (h' : wpList P l.toArray (Exit.then (fun a' w' => ((listed.setIfInBounds j true).getD n false = true ∨ V w') ∧ anyT P md l.toArray Q n V fuel (listed.setIfInBounds j true) a' w') Q) [oj] a w)
    (h2 : wpList P l.toArray (Exit.then (fun a' w' => ((listed.setIfInBounds k true).getD n false = true ∨ V w') ∧ anyT P md l.toArray Q n V fuel (listed.setIfInBounds k true) a' w') Q) [ok] a w)
    (hi' : l.drop i = oi :: rs := by rfl) (hj' : l.drop j = oj :: rs' := by rfl) (hk' : l.drop k = ok :: rs2 := by rfl) (hr : Region.ready md l.toArray listed = [i, j, k] := by kernel_rfl) : anyT P md l.toArray Q n V (fuel + 1) listed a w := by
  refine ⟨fun h0 => absurd (hr ▸ h0) (by simp), fun x hx => ?_⟩
  rw [hr] at hx
  simp only [List.mem_cons, List.not_mem_nil, or_false] at hx
  rcases hx with rfl | rfl | rfl
  · exact wpOp_of_list (get_of_drop hi') h
  · exact wpOp_of_list (get_of_drop hj') h'
  · exact wpOp_of_list (get_of_drop hk') h2
end

end Go.Proofs.YtoakmlopjeecoaaGreatDoor.Rd

namespace Go.Proofs.YtoakmlopjeecoaaGreatDoor.Rd
set_option linter.unusedVariables false
set_option maxRecDepth 100000

/-- The identity behind a round: S = H R, R = 2 H. -/
theorem groot_ident (H R g h t r1 f g' r2 h' r3 S Dl : Int) (hR : R = 2 * H) (hS : S = H * R) (hD : Dl = S - g * h) (i1 : g * h = R * t + r1) (i2 : f + t = 3 * H) (i3 : g * f = R * g' + r2) (i4 : h * f = R * h' + r3) :
    4 * S * S * (S - g' * h') = 3 * S * (Dl * Dl) + Dl * Dl * Dl - (S - Dl) * ((4 * S + 2 * Dl) * r1 + r1 * r1) + 2 * S * (g * f * r3 + h * f * r2 - r2 * r3) := by
  have e1 : R * f = 2 * S + Dl + r1 := by
    have : R * f + R * t = R * (3 * H) := by rw [← Int.mul_add, i2]
    have e : R * (3 * H) = 3 * S := by rw [hS]; grind
    omega
  have e2 : R * R = 2 * S := by rw [hS, hR]; grind
  have e3 : (R * g') * (R * h') = g * h * (f * f) - (g * f * r3 + h * f * r2 - r2 * r3) := by
    have a : R * g' = g * f - r2 := by omega
    have b : R * h' = h * f - r3 := by omega
    rw [a, b]; grind
  have e4 : g * h = S - Dl := by omega
  have e5 : 4 * S * S * (g' * h') = 2 * S * ((R * g') * (R * h')) := by
    have : (R * g') * (R * h') = R * R * (g' * h') := by grind
    rw [this, e2]; grind
  have e6 : 2 * S * (g * h * (f * f)) = (S - Dl) * ((2 * S + Dl + r1) * (2 * S + Dl + r1)) := by
    rw [← e1, e4, ← e2]; grind
  rw [Int.mul_sub, e5, e3, Int.mul_sub, e6]
  grind

/-- The ratio drifts by little. -/
theorem groot_ratio (R A n g h f g' r2 h' r3 F : Int) (hF : F = A * g - n * h) (i3 : g * f = R * g' + r2) (i4 : h * f = R * h' + r3) : (A * g' - n * h') * R = F * f - A * r2 + n * r3 := by
  have a : R * g' = g * f - r2 := by omega
  have b : R * h' = h * f - r3 := by omega
  have : (A * g' - n * h') * R = A * (R * g') - n * (R * h') := by grind
  rw [this, a, b, hF]; grind

theorem sum3 {a b c : Int} {x y : Nat} (h1 : a.natAbs ≤ x) (h2 : b.natAbs ≤ x) (h3 : c.natAbs ≤ y) : (a + b - c).natAbs ≤ 2 * x + y := by omega
theorem sum2 {a b : Int} {x y : Nat} (h1 : a.natAbs ≤ x) (h2 : b.natAbs ≤ y) : (a + b).natAbs ≤ x + y := by omega
theorem sum_bound {a b c e : Int} {x y z u : Nat} (h1 : a.natAbs ≤ x) (h2 : b.natAbs ≤ y) (h3 : c.natAbs ≤ z) (h4 : e.natAbs ≤ u) : (3 * a + b - c + 2 * e).natAbs ≤ 3 * x + y + z + 2 * u := by omega

set_option maxHeartbeats 1000000 in
theorem groot_step (H R g h d d' : Nat) (hR : R = 2 * H) (hR2 : 2 ≤ R) (hd : d ≤ H) (hg : g ≤ 2 * R) (hh : h ≤ 2 * R) (hE : (((H * R : Nat) : Int) - ((g * h : Nat) : Int)).natAbs ≤ d * R) (ht : g * h / R ≤ 3 * H) (hd' : 2 * (d * d) + 12 * R ≤ d' * R) :
    (((H * R : Nat) : Int) - ((g * (3 * H - g * h / R) / R * (h * (3 * H - g * h / R) / R) : Nat) : Int)).natAbs ≤ d' * R := by
  have hR0 : 0 < R := by omega
  have h1 := Nat.div_add_mod (g * h) R
  have h2 := Nat.mod_lt (g * h) hR0
  generalize g * h / R = t at *
  generalize g * h % R = r1 at *
  obtain ⟨f, hf⟩ : ∃ f, f = 3 * H - t := ⟨_, rfl⟩
  rw [← hf]
  have h3 := Nat.div_add_mod (g * f) R
  have h4 := Nat.mod_lt (g * f) hR0
  have h5 := Nat.div_add_mod (h * f) R
  have h6 := Nat.mod_lt (h * f) hR0
  generalize g * f / R = g' at *
  generalize g * f % R = r2 at *
  generalize h * f / R = h' at *
  generalize h * f % R = r3 at *
  obtain ⟨S, hS⟩ : ∃ S, S = H * R := ⟨_, rfl⟩
  rw [← hS] at hE ⊢
  obtain ⟨Dl, hDl⟩ : ∃ Dl : Int, Dl = (S : Int) - g * h := ⟨_, rfl⟩
  have id := groot_ident H R g h t r1 f g' r2 h' r3 S Dl (by omega) (by exact_mod_cast hS) hDl (by exact_mod_cast h1.symm) (by omega) (by exact_mod_cast h3.symm) (by exact_mod_cast h5.symm)
  have bD : Dl.natAbs ≤ d * R := by rw [hDl]; exact_mod_cast hE
  have e2 : R * R = 2 * S := by rw [hS, hR]; grind
  have bS : d * R ≤ S := by rw [hS]; exact Nat.mul_le_mul_right _ hd
  have hfR : f ≤ 2 * R := by omega
  have p1 : (Dl * Dl).natAbs ≤ d * R * (d * R) := natAbs_mul_le bD bD
  have p2 : (Dl * Dl * Dl).natAbs ≤ d * R * (d * R) * S := natAbs_mul_le p1 (Nat.le_trans bD bS)
  have p3 : ((S : Int) * (Dl * Dl)).natAbs ≤ S * (d * R * (d * R)) := natAbs_mul_le (by omega) p1
  have q1 : ((4 * (S : Int) + 2 * Dl) * r1).natAbs ≤ 6 * S * R := natAbs_mul_le (by omega) (by omega)
  have q2 : ((r1 : Int) * r1).natAbs ≤ R * R := natAbs_mul_le (by omega) (by omega)
  have q3 : (((S : Int) - Dl) * ((4 * (S : Int) + 2 * Dl) * r1 + r1 * r1)).natAbs ≤ 2 * S * (6 * S * R + R * R) := natAbs_mul_le (by omega) (sum2 q1 q2)
  have g1 : ((g : Int) * f * r3).natAbs ≤ 2 * R * (2 * R) * R := natAbs_mul_le (natAbs_mul_le (by omega) (by omega)) (by omega)
  have g2 : ((h : Int) * f * r2).natAbs ≤ 2 * R * (2 * R) * R := natAbs_mul_le (natAbs_mul_le (by omega) (by omega)) (by omega)
  have g3 : ((r2 : Int) * r3).natAbs ≤ R * R := natAbs_mul_le (by omega) (by omega)
  have g4 : ((S : Int) * ((g : Int) * f * r3 + h * f * r2 - r2 * r3)).natAbs ≤ S * (2 * (2 * R * (2 * R) * R) + R * R) := natAbs_mul_le (by omega) (sum3 g1 g2 g3)
  obtain ⟨E', hE'⟩ : ∃ E' : Int, E' = (S : Int) - g' * h' := ⟨_, rfl⟩
  rw [← hE'] at id
  have tot : (4 * (S : Int) * S * E').natAbs ≤ 3 * (S * (d * R * (d * R))) + d * R * (d * R) * S + 2 * S * (6 * S * R + R * R) + 2 * (S * (2 * (2 * R * (2 * R) * R) + R * R)) := by
    rw [id]
    have e1 : 3 * (S : Int) * (Dl * Dl) = 3 * ((S : Int) * (Dl * Dl)) := by grind
    have e3 : 2 * (S : Int) * ((g : Int) * f * r3 + h * f * r2 - r2 * r3) = 2 * ((S : Int) * ((g : Int) * f * r3 + h * f * r2 - r2 * r3)) := by grind
    rw [e1, e3]
    exact sum_bound p3 p2 q3 g4
  have goal' : ((S : Int) - ((g' * h' : Nat) : Int)) = E' := by rw [hE']; push_cast; rfl
  rw [goal']
  have na : (4 * (S : Int) * S * E').natAbs = 4 * (S * S) * E'.natAbs := by
    rw [Int.natAbs_mul, show 4 * (S : Int) * S = ((4 * (S * S) : Nat) : Int) by push_cast; grind]; rfl
  rw [na] at tot
  have f1 : 3 * (S * (d * R * (d * R))) + d * R * (d * R) * S = 4 * (S * S) * (2 * (d * d)) := by
    have : d * R * (d * R) = d * d * (R * R) := by grind
    rw [this, e2]; grind
  have f2 : 2 * S * (6 * S * R + R * R) = 4 * (S * S) * (3 * R + 1) := by rw [e2]; grind
  have f3 : 2 * (S * (2 * (2 * R * (2 * R) * R) + R * R)) = 4 * (S * S) * (8 * R + 1) := by
    have : 2 * R * (2 * R) * R = 4 * (R * R) * R := by grind
    rw [this, e2]; grind
  have m : 4 * (S * S) * E'.natAbs ≤ 4 * (S * S) * (d' * R) := by
    refine Nat.le_trans tot ?_
    rw [f1, f2, f3, ← Nat.mul_add, ← Nat.mul_add]
    exact Nat.mul_le_mul_left _ (by omega)
  have hSp : 0 < S := by rw [hS]; exact Nat.mul_pos (by omega) hR0
  exact Nat.le_of_mul_le_mul_left m (by have := Nat.mul_pos hSp hSp; omega)

theorem groot_drift (R A Q n g h f e e' b : Nat) (hR : 0 < R) (hA : A ≤ Q) (hn : n ≤ Q) (hF : (((A * g : Nat) : Int) - ((n * h : Nat) : Int)).natAbs ≤ e * Q) (hf : f ≤ R + b) (he : e * (R + b) + R ≤ e' * R) :
    (((A * (g * f / R) : Nat) : Int) - ((n * (h * f / R) : Nat) : Int)).natAbs ≤ e' * Q := by
  have h3 := Nat.div_add_mod (g * f) R
  have h4 := Nat.mod_lt (g * f) hR
  have h5 := Nat.div_add_mod (h * f) R
  have h6 := Nat.mod_lt (h * f) hR
  generalize g * f / R = g' at *
  generalize g * f % R = r2 at *
  generalize h * f / R = h' at *
  generalize h * f % R = r3 at *
  obtain ⟨F, hFF⟩ : ∃ F : Int, F = (A : Int) * g - n * h := ⟨_, rfl⟩
  have key := groot_ratio R A n g h f g' r2 h' r3 F hFF (by exact_mod_cast h3.symm) (by exact_mod_cast h5.symm)
  have bF : F.natAbs ≤ e * Q := by rw [hFF]; exact_mod_cast hF
  obtain ⟨F', hF'⟩ : ∃ F' : Int, F' = (A : Int) * g' - n * h' := ⟨_, rfl⟩
  have goal' : ((A * g' : Nat) : Int) - ((n * h' : Nat) : Int) = F' := by rw [hF']; push_cast; rfl
  rw [goal']
  rw [← hF'] at key
  have b1 : A * r2 ≤ Q * R := Nat.mul_le_mul hA (Nat.le_of_lt h4)
  have b2 : n * r3 ≤ Q * R := Nat.mul_le_mul hn (Nat.le_of_lt h6)
  have b3 : (F * (f : Int)).natAbs ≤ e * Q * (R + b) := natAbs_mul_le bF (by omega)
  have n1 : F'.natAbs * R ≤ e * Q * (R + b) + Q * R := by
    have : (F' * (R : Int)).natAbs = F'.natAbs * R := by rw [Int.natAbs_mul]; rfl
    rw [← this, key]
    have c1 : ((A * r2 : Nat) : Int) = (A : Int) * (r2 : Int) := by push_cast; rfl
    have c2 : ((n * r3 : Nat) : Int) = (n : Int) * (r3 : Int) := by push_cast; rfl
    omega
  have n2 : F'.natAbs * R ≤ e' * Q * R := by
    have h := Nat.mul_le_mul_left Q he
    have e1 : Q * (e * (R + b) + R) = e * Q * (R + b) + Q * R := by grind
    have e2 : Q * (e' * R) = e' * Q * R := by grind
    omega
  exact Nat.le_of_mul_le_mul_right n2 hR

end Go.Proofs.YtoakmlopjeecoaaGreatDoor.Rd

namespace Go.Proofs.YtoakmlopjeecoaaGreatDoor.Rd
set_option linter.unusedVariables false
set_option maxRecDepth 100000

def gH : Nat := 2 ^ 159
def gds : Nat → Nat
  | 0 => 2 ^ 154 + 1
  | 1 => 2 ^ 150
  | 2 => 2 ^ 142
  | 3 => 2 ^ 126
  | 4 => 2 ^ 94
  | _ => 2 ^ 30
theorem gds_step : ∀ k, k < 5 → 2 * (gds k * gds k) + 12 * R ≤ gds (k + 1) * R := by decide
theorem gds_le : ∀ k, k < 6 → gds k ≤ 2 ^ 155 := by decide
theorem gds_drift : ∀ k, k < 5 → (2 * k + 1) * (R + gds k) + R ≤ (2 * (k + 1) + 1) * R := by decide
structure GoldI (n k g h : Nat) : Prop where
  hg : g ≤ R + gH + k * 2 ^ 156
  hh : h ≤ R + gH + k * 2 ^ 156
  hE : (((gH * R : Nat) : Int) - ((g * h : Nat) : Int)).natAbs ≤ gds k * R
  hF : (((2 ^ 255 * g : Nat) : Int) - ((n * h : Nat) : Int)).natAbs ≤ (2 * k + 1) * (K * K)
theorem gold_fac (g h d : Nat) (hd : d ≤ 2 ^ 155) (hE : (((gH * R : Nat) : Int) - ((g * h : Nat) : Int)).natAbs ≤ d * R) : g * h / R ≤ 3 * gH ∧ 3 * gH - g * h / R ≤ R + d := by
  have hR := R_pos
  have h2 : R = 2 * gH := by decide
  have h3 : d ≤ gH := Nat.le_trans hd (by decide)
  have e1 : g * h ≤ (gH + d) * R := by rw [Nat.add_mul]; omega
  have e2 : (gH - d) * R ≤ g * h := by rw [Nat.sub_mul]; omega
  have t1 : g * h / R ≤ gH + d := Nat.div_le_of_le_mul (by rw [Nat.mul_comm R]; exact e1)
  have t2 : gH - d ≤ g * h / R := (Nat.le_div_iff_mul_le hR).2 e2
  omega
theorem gold_grow (g f d : Nat) (hg : g ≤ 2 * R) (hd : d ≤ 2 ^ 155) (hf : f ≤ R + d) : g * f / R ≤ g + 2 ^ 156 := by
  apply Nat.div_le_of_le_mul
  have e1 : g * f ≤ g * (R + d) := Nat.mul_le_mul_left _ hf
  have e2 : g * d ≤ 2 * R * 2 ^ 155 := Nat.mul_le_mul hg hd
  have e3 : g * (R + d) = g * R + g * d := Nat.mul_add _ _ _
  have e4 : R * (g + 2 ^ 156) = g * R + R * 2 ^ 156 := by rw [Nat.mul_add, Nat.mul_comm R g]
  have e5 : 2 * R * 2 ^ 155 = R * 2 ^ 156 := by decide
  omega
theorem GoldI.small {n k g h : Nat} (I : GoldI n k g h) (hk : k ≤ 5) : g ≤ 2 * R ∧ h ≤ 2 * R := by
  have h1 := I.hg
  have h2 := I.hh
  have h3 : k * 2 ^ 156 ≤ 5 * 2 ^ 156 := Nat.mul_le_mul_right _ hk
  have h4 : R + gH + 5 * 2 ^ 156 ≤ 2 * R := by decide
  omega
theorem GoldI.next {n k g h : Nat} (hn : n < K * K) (hk : k < 5) (I : GoldI n k g h) : GoldI n (k + 1) (g * (3 * gH - g * h / R) / R) (h * (3 * gH - g * h / R) / R) := by
  obtain ⟨s1, s2⟩ := I.small (by omega)
  have hd := gds_le k (by omega)
  obtain ⟨f1, f2⟩ := gold_fac g h _ hd I.hE
  have a1 := gold_grow g _ _ s1 hd f2
  have a2 := gold_grow h _ _ s2 hd f2
  have b1 := I.hg
  have b2 := I.hh
  have e : (k + 1) * 2 ^ 156 = k * 2 ^ 156 + 2 ^ 156 := by rw [Nat.add_mul, Nat.one_mul]
  exact ⟨by omega, by omega, groot_step gH R g h (gds k) (gds (k + 1)) (by decide) (by decide) (Nat.le_trans hd (by decide)) s1 s2 I.hE f1 (gds_step k hk),
    groot_drift R (2 ^ 255) (K * K) n g h _ (2 * k + 1) (2 * (k + 1) + 1) (gds k) R_pos (by decide) (Nat.le_of_lt hn) I.hF f2 (gds_drift k hk)⟩
end Go.Proofs.YtoakmlopjeecoaaGreatDoor.Rd

namespace Go.Proofs.YtoakmlopjeecoaaGreatDoor.Rd
open Go Go.RowKit
set_option linter.unusedVariables false
set_option linter.unusedSimpArgs false
set_option maxRecDepth 100000

section
variable {P : Program} {ops : Array Oper} {rest : List Oper} {Q : Exit → Act → World → Prop} {a : Act} {w w0 : World} {S : List Nat} {L L' : List (Nat × Obj)}
end

end Go.Proofs.YtoakmlopjeecoaaGreatDoor.Rd

namespace Go.Proofs.YtoakmlopjeecoaaGreatDoor.Rd
open Go Go.RowKit
set_option linter.unusedVariables false
set_option linter.unusedSimpArgs false
set_option maxRecDepth 100000

end Go.Proofs.YtoakmlopjeecoaaGreatDoor.Rd

namespace Go.Proofs.YtoakmlopjeecoaaGreatDoor.Rd
open Go Go.RowKit
set_option linter.unusedVariables false
set_option linter.unusedSimpArgs false
set_option maxRecDepth 100000

end Go.Proofs.YtoakmlopjeecoaaGreatDoor.Rd

namespace Go.Proofs.YtoakmlopjeecoaaGreatDoor.Rd
open Go Go.RowKit
set_option linter.unusedVariables false
set_option linter.unusedSimpArgs false
set_option maxRecDepth 100000

/-- One new block, and a pointer to it. -/
def OneNew (o : Obj) (Lg : List (Nat × Obj)) (v : Value) : Prop := ∃ b, Lg = [(b, o)] ∧ v = .pointer (some ⟨b, 0, none⟩)
theorem PostN.one {w0 w : World} {L : List (Nat × Obj)} {b : Nat} {o : Obj} (hst : St w0 [] L w) (hb : w0.heap.size ≤ b) (hm : (b, o) ∈ L) : PostN (OneNew o) w0 (.returned (.pointer (some ⟨b, 0, none⟩))) w :=
  PostN.of hst (Lg := [(b, o)]) ⟨by intro x hx; simp at hx; subst hx; exact hb, by simp⟩ ⟨b, rfl, rfl⟩ (fun x hx => by simp at hx; subst hx; exact hm)

theorem rom_zero (w : World) : (Instr.build 124 (List.toArray [])).run Tryz.prog w = .ok (.agg (romC 0 0 0 0 0)) w := by kernel_rfl

theorem rom_New (w0 : World) : GivesN Tryz.prog 39 #[] (OneNew (.cells (romC 0 0 0 0 0) 124)) w0 := by
  have hst := St.start [] w0
  have hz := rom_zero
  generalize romC 0 0 0 0 0 = c at *
  go_enter Tryz.func39, Tryz.ntmps39
  go_wp2_with ((first | (refine kB hz rfl ?_) | (refine kb 2 hst rfl rfl ?_; clear hst; intro b2 w hb2 hst)); try simp only [pz, pn, sz, sc])
  exact bp_t rfl rfl (by rfl) (PostN.one hst (by assumption) (by simp))

/-- A set's cells. -/
def engC (d m : Int) (p : Option Addr) (a1 a2 a3 a4 : Value) (q0 q1 q2 q3 q4 : Int) : Array Value := #[.int .u32 d, .int .i32 m, .int .u32 0, .pointer p, .nilIface, a1, a2, a3, a4, .int .i64 q0, .int .i64 q1, .int .i64 q2, .int .i64 q3, .int .i64 q4]
def engN (p : Option Addr) : Array Value := engC 0 0 p .nilIface .nilIface .nilIface .nilIface 0 0 0 0 0
theorem set_zero (p : Option Addr) (w : World) : (Instr.build 102 (List.toArray [(1, .pointer p)])).run Tryz.prog w = .ok (.agg (engN p)) w := by kernel_rfl

/-- A set that is new. -/
def SetNew (bs br : Nat) (L : List (Nat × Obj)) : Prop := L = [(bs, .cells (engN (some ⟨br, 0, none⟩)) 102), (br, .cells (romC 0 0 0 0 0) 124)]

theorem engine_New (w0 : World) : GivesN Tryz.prog 29 #[] (fun Lg v => ∃ bs br, bs ≠ br ∧ v = .pointer (some ⟨bs, 0, none⟩) ∧ SetNew bs br Lg) w0 := by
  have hst := St.start [] w0
  have hz := set_zero
  have hr := fun w => rom_New w
  unfold SetNew
  generalize romC 0 0 0 0 0 = c at *
  generalize hsN : engN = sN at *
  clear hsN
  go_enter Tryz.func29, Tryz.ntmps29
  go_wp2_with ((first | (refine kN (o := ⟨some 1, _, _, _, _, _⟩) gf39 hst (fun w hst => hr w) rfl rfl rfl rfl ?_; clear hst; intro v1 Lg1 w hn1 hR1 hst; obtain ⟨br, rfl, rfl⟩ := hR1; (try simp only [List.cons_append, List.nil_append, List.append_nil, List.append_assoc] at hst)) | (refine kB (hz _) rfl ?_) | (refine kb 3 hst rfl rfl ?_; clear hst; intro b3 w hb3 hst)); try simp only [pz, pn, sz, sc])
  have hne : b3 ≠ br := by have q := hst.nodup; simpa using q
  have hnb : w0.heap.size ≤ br := hn1.1 _ (List.mem_singleton.2 rfl)
  exact bp_t rfl rfl (by rfl) (PostN.of hst (Lg := [(b3, .cells (sN (some ⟨br, 0, none⟩)) 102), (br, .cells c 124)]) ⟨by intro x hx; simp at hx; rcases hx with rfl | rfl <;> assumption, by simpa using hne⟩ ⟨b3, br, hne, rfl, rfl⟩ (fun x hx => by simpa using hx))

end Go.Proofs.YtoakmlopjeecoaaGreatDoor.Rd

namespace Go.Proofs.YtoakmlopjeecoaaGreatDoor.Rd
open Go Go.RowKit
set_option linter.unusedVariables false
set_option linter.unusedSimpArgs false
set_option maxRecDepth 100000

/-- The four engines. -/
def eA1 : Value := .iface 210 (.agg #[])
def eA2 : Value := .iface 211 (.agg #[])
def eA3 (b1 b2 : Nat) : Value := .iface 217 (.agg #[.pointer (some ⟨b1, 0, none⟩), .pointer (some ⟨b2, 0, none⟩)])
def eA4 (b3 b4 : Nat) : Value := .iface 223 (.agg #[.pointer (some ⟨b3, 0, none⟩), .pointer (some ⟨b4, 0, none⟩)])
def engR (m d : Int) (br b1 b2 b3 b4 : Nat) (q0 q1 q2 q3 q4 : Int) : Array Value := engC d m (some ⟨br, 0, none⟩) eA1 eA2 (eA3 b1 b2) (eA4 b3 b4) q0 q1 q2 q3 q4
def ptrC (br : Nat) : Array Value := #[.pointer (some ⟨br, 0, none⟩)]
/-- A call that turns the blocks of L, and brings new ones. -/
def PostZ (S' : List Nat) (L : List (Nat × Obj)) (R : List (Nat × Obj) → Value → Prop) (w : World) (e : Ending) (w' : World) : Prop :=
  ∃ v, e = .returned v ∧ Keeps S' w w' ∧ ∃ L', R L' v ∧ (L'.map Prod.fst).Nodup ∧ (∀ x ∈ L', x.1 ∈ L.map Prod.fst ∨ w.heap.size ≤ x.1) ∧ ∀ b o, (b, o) ∈ L' → w'.heap[b]? = some o
/-- The tail of a list, turned. -/
inductive Tail (L L' : List (Nat × Obj)) : List (Nat × Obj) → List (Nat × Obj) → Prop
  | here : Tail L L' L L'
  | there {x X X'} : Tail L L' X X' → Tail L L' (x :: X) (x :: X')
theorem Tail.eq {L L' X X' : List (Nat × Obj)} (h : Tail L L' X X') : ∃ pre, X = pre ++ L ∧ X' = pre ++ L' := by
  induction h with
  | here => exact ⟨[], rfl, rfl⟩
  | there h ih => obtain ⟨pre, rfl, rfl⟩ := ih; exact ⟨_ :: pre, rfl, rfl⟩
theorem St.turn {w0 w w' : World} {S S' : List Nat} {L L' X X' : List (Nat × Obj)} (hst : St w0 S X w) (ht : Tail L L' X X') (hS : ∀ x ∈ S', x ∈ L.map Prod.fst) (hm : ∀ x ∈ S', x ∈ S ∨ w0.heap.size ≤ x)
    (k : Keeps S' w w') (hnd : (L'.map Prod.fst).Nodup) (hnew : ∀ x ∈ L', x.1 ∈ L.map Prod.fst ∨ w.heap.size ≤ x.1) (hown : ∀ b o, (b, o) ∈ L' → w'.heap[b]? = some o) : St w0 S X' w' := by
  obtain ⟨pre, rfl, rfl⟩ := ht.eq
  have hnd0 := hst.nodup
  rw [List.map_append, List.nodup_append] at hnd0
  obtain ⟨n1, n2, n3⟩ := hnd0
  refine ⟨hst.keeps.trans k (fun x hx hlt => ?_), fun b o hb => ?_, ?_⟩
  · rcases hm x hx with h | h
    · exact h
    · omega
  · rcases List.mem_append.1 hb with hb | hb
    · have ho := hst.own b o (List.mem_append.2 (.inl hb))
      rw [k.block b (lt_of_some ho) (fun hx => n3 b (List.mem_map.2 ⟨_, hb, rfl⟩) b (hS b hx) rfl)]
      exact ho
    · exact hown b o hb
  · rw [List.map_append, List.nodup_append]
    refine ⟨n1, hnd, fun x hx y hy e => ?_⟩
    subst e
    obtain ⟨y', hy', e'⟩ := List.mem_map.1 hy
    subst e'
    rcases hnew y' hy' with h | h
    · exact n3 _ hx _ h rfl
    · obtain ⟨z, hz, e⟩ := List.mem_map.1 hx
      have := lt_of_some (hst.own z.1 z.2 (List.mem_append.2 (.inl hz)))
      omega

section
variable {P : Program} {ops : Array Oper} {rest : List Oper} {Q : Exit → Act → World → Prop} {a : Act} {w w0 : World} {S S' : List Nat} {L X : List (Nat × Obj)}
theorem PostZ.of {R : List (Nat × Obj) → Value → Prop} {L' X' : List (Nat × Obj)} {v : Value} (hst : St w0 S X' w) (hR : R L' v) (hnew : ∀ x ∈ L', x.1 ∈ L.map Prod.fst ∨ w0.heap.size ≤ x.1)
    (ht : Tail L L' X X' := by repeat (first | exact Tail.here | apply Tail.there)) : PostZ S L R w0 (.returned v) w := by
  obtain ⟨pre, rfl, rfl⟩ := ht.eq
  have h := hst.nodup
  rw [List.map_append, List.nodup_append] at h
  exact ⟨v, rfl, hst.keeps, L', hR, h.2.1, hnew, fun b o hb => hst.own b o (List.mem_append.2 (.inr hb))⟩
end

end Go.Proofs.YtoakmlopjeecoaaGreatDoor.Rd

namespace Go.Proofs.YtoakmlopjeecoaaGreatDoor.Rd
open Go Go.RowKit
set_option linter.unusedVariables false
set_option linter.unusedSimpArgs false
set_option maxRecDepth 100000

/-- The blocks of a set that is ready. -/
def EngL (bs br : Nat) (c : Array Value) (c1 c2 c3 c4 : Nat) (q : Nat → Int) : List (Nat × Obj) := [(bs, .cells (engR 0 1 br c1 c2 c3 c4 (q 0) (q 1) (q 2) (q 3) (q 4)) 102), (br, .cells c 124), (c1, .cells (ptrC br) 243), (c2, .cells (ptrC br) 247), (c3, .cells (ptrC br) 251), (c4, .cells (ptrC br) 255)]
def romN : Array Value := romC 0 0 0 0 0
/-- A set, ready or not. -/
def SetSt (bs br : Nat) (c : Array Value) (q : Nat → Int) (L : List (Nat × Obj)) : Prop := (SetNew bs br L ∧ c = romN ∧ q = fun _ => 0) ∨ ∃ c1 c2 c3 c4, L = EngL bs br c c1 c2 c3 c4 q
theorem SetSt.bs {bs br : Nat} {c : Array Value} {q : Nat → Int} {L : List (Nat × Obj)} (h : SetSt bs br c q L) : bs ∈ L.map Prod.fst ∧ br ∈ L.map Prod.fst := by
  rcases h with ⟨rfl, _⟩ | ⟨c1, c2, c3, c4, rfl⟩ <;> simp [EngL]
def Owns (w : World) (L : List (Nat × Obj)) : Prop := (L.map Prod.fst).Nodup ∧ ∀ b o, (b, o) ∈ L → w.heap[b]? = some o
theorem St.owns {w0 w : World} {S : List Nat} {L L' X X' : List (Nat × Obj)} (h : St w0 S X' w) (ht : Tail L L' X X') : Owns w L' := by
  obtain ⟨pre, rfl, rfl⟩ := ht.eq
  have hn := h.nodup
  rw [List.map_append, List.nodup_append] at hn
  exact ⟨hn.2.1, fun b o hb => h.own b o (List.mem_append.2 (.inr hb))⟩

end Go.Proofs.YtoakmlopjeecoaaGreatDoor.Rd

namespace Go.Proofs.YtoakmlopjeecoaaGreatDoor.Rd
open Go Go.RowKit
set_option linter.unusedVariables false
set_option linter.unusedSimpArgs false
set_option maxRecDepth 100000

theorem engine_is_yes (k : Int) (h1 : 1 ≤ k) (h2 : k ≤ 4) : Gives Tryz.prog 43 #[.int .i64 k] (.bool true) := by
  intro w0
  have hst := St.start [] w0
  have q1 : k < 5 := by omega
  go_enter Tryz.func43, Tryz.ntmps43
  go_wp2_with fail
  refine bp_t rfl rfl (by rfl) ⟨?_, hst.keeps⟩
  rfl
end Go.Proofs.YtoakmlopjeecoaaGreatDoor.Rd

namespace Go.Proofs.YtoakmlopjeecoaaGreatDoor.Rd
open Go Go.RowKit
set_option linter.unusedVariables false
set_option linter.unusedSimpArgs false
set_option maxRecDepth 100000

end Go.Proofs.YtoakmlopjeecoaaGreatDoor.Rd

namespace Go.Proofs.YtoakmlopjeecoaaGreatDoor.Rd
open Go Go.RowKit
set_option linter.unusedVariables false
set_option linter.unusedSimpArgs false
set_option maxRecDepth 100000

end Go.Proofs.YtoakmlopjeecoaaGreatDoor.Rd

namespace Go.Proofs.YtoakmlopjeecoaaGreatDoor.Rd
open Go Go.RowKit
set_option linter.unusedVariables false
set_option linter.unusedSimpArgs false
set_option maxRecDepth 100000

end Go.Proofs.YtoakmlopjeecoaaGreatDoor.Rd

namespace Go.Proofs.YtoakmlopjeecoaaGreatDoor.Rd
open Go Go.RowKit
set_option linter.unusedVariables false
set_option linter.unusedSimpArgs false
set_option maxRecDepth 100000

theorem Owns.three {w : World} {b1 b2 b5 : Nat} {o1 o2 o5 : Obj} (hn : [b1, b5, b2].Nodup) (h1 : w.heap[b1]? = some o1) (h2 : w.heap[b2]? = some o2) (h5 : w.heap[b5]? = some o5) : Owns w [(b1, o1), (b2, o2), (b5, o5)] := by
  refine ⟨?_, fun b o hb => ?_⟩
  · simp only [List.map_cons, List.map_nil, List.nodup_cons, List.mem_cons, List.not_mem_nil, or_false, not_or, not_false_eq_true, List.nodup_nil, and_true] at hn ⊢
    omega
  · simp only [List.mem_cons, Prod.mk.injEq, List.not_mem_nil, or_false] at hb
    rcases hb with ⟨rfl, rfl⟩ | ⟨rfl, rfl⟩ | ⟨rfl, rfl⟩ <;> assumption

end Go.Proofs.YtoakmlopjeecoaaGreatDoor.Rd

namespace Go.Proofs.YtoakmlopjeecoaaGreatDoor.Rd
open Go Go.RowKit
set_option linter.unusedVariables false
set_option linter.unusedSimpArgs false
set_option maxRecDepth 100000

end Go.Proofs.YtoakmlopjeecoaaGreatDoor.Rd

namespace Go.Proofs.YtoakmlopjeecoaaGreatDoor.Rd
open Go Go.RowKit
set_option linter.unusedVariables false
set_option linter.unusedSimpArgs false
set_option maxRecDepth 100000

end Go.Proofs.YtoakmlopjeecoaaGreatDoor.Rd

namespace Go.Proofs.YtoakmlopjeecoaaGreatDoor.Rd
open Go Go.RowKit
set_option linter.unusedVariables false
set_option linter.unusedSimpArgs false
set_option maxRecDepth 100000

end Go.Proofs.YtoakmlopjeecoaaGreatDoor.Rd

namespace Go.Proofs.YtoakmlopjeecoaaGreatDoor.Rd
open Go Go.RowKit
set_option linter.unusedVariables false
set_option linter.unusedSimpArgs false
set_option maxRecDepth 100000

section
variable {P : Program} {ops : Array Oper} {rest : List Oper} {Q : Exit → Act → World → Prop} {a : Act} {w w' w0 : World} {S : List Nat} {L : List (Nat × Obj)}
theorem run_loadCellV {T : TypeId} {b i : Nat} {v : Value} (hT : CellT P T) (hc : w.cell? ⟨b, i, none⟩ = some v) : (Instr.loadAt T (.pointer (some ⟨b, i, none⟩))).run P w = .ok v w := by
  obtain ⟨d, hu, hd, _⟩ := hT
  simp [Instr.loadAt, Instr.sureAddr, loadVar, Sem.run_bind, run_isAgg_no d hu hd w, load, Sem.run, hc]
theorem Keeps.cellV (k : Keeps [] w w') {b i : Nat} {v : Value} (h : w.cell? ⟨b, i, none⟩ = some v) : w'.cell? ⟨b, i, none⟩ = some v := by
  have hb : b < w.heap.size := by
    rcases Nat.lt_or_ge b w.heap.size with h' | h'
    · exact h'
    · simp [World.cell?, Array.getElem?_eq_none h'] at h
  have e := k.block b hb (by simp)
  unfold World.cell? at *
  simp only at *
  rw [e]; exact h
/-- A load of one cell that the world is known to hold. -/
theorem kcv {o : Oper} {T : TypeId} {x : Operand} {b i : Nat} {v : Value} (hst : St w0 S L w) (hT : CellT P T) (hc : ∀ w, St w0 S L w → w.cell? ⟨b, i, none⟩ = some v) (ho : o.op = .load T x) (h : wpList P ops Q rest (a.put o.dst v) w)
    (hx : a.eval x = .pointer (some ⟨b, i, none⟩) := by rfl) (hg : o.guard = none := by rfl) : wpList P ops Q (o :: rest) a w := by
  refine wpList_plain hg fun K hK => ?_
  unfold Oper.wp execOp
  simp only [ho, hx, Sem.run_bind, run_loadCellV hT (hc w hst), Sem.run_pure, Result.andThen_ok]
  exact hK _ _ h
end

/-- The engines' names. -/
def nm (i : Nat) : ByteArray := if i = 1 then ⟨#[114, 101, 115, 116, 111, 114, 105, 110, 103]⟩ else if i = 2 then ⟨#[115, 114, 116]⟩ else if i = 3 then ⟨#[110, 101, 119, 116, 111, 110]⟩ else if i = 4 then ⟨#[103, 111, 108, 100]⟩ else ⟨#[]⟩
def nmSz (i : Nat) : Nat := if i = 1 then 9 else if i = 2 then 3 else if i = 3 then 6 else if i = 4 then 4 else 0
theorem nm_size (i : Nat) : (nm i).size = nmSz i := by unfold nm nmSz; split <;> (try split) <;> (try split) <;> (try split) <;> rfl
theorem nm_inj {i j : Nat} (h1 : 1 ≤ i) (h2 : i ≤ 4) (h3 : 1 ≤ j) (h4 : j ≤ 4) (h : nm i = nm j) : i = j := by
  have e : nmSz i = nmSz j := by rw [← nm_size, ← nm_size, h]
  have hi : i = 1 ∨ i = 2 ∨ i = 3 ∨ i = 4 := by omega
  have hj : j = 1 ∨ j = 2 ∨ j = 3 ∨ j = 4 := by omega
  rcases hi with rfl | rfl | rfl | rfl <;> rcases hj with rfl | rfl | rfl | rfl <;> first | rfl | (exfalso; revert e; decide)
def NamesIn (w : World) : Prop := ∀ i, i < 5 → w.cell? ⟨1, i, none⟩ = some (.string (nm i))
/-- m is the number of the name T, or 0. -/
def NameOf (T : ByteArray) (m : Nat) : Prop := (1 ≤ m ∧ m ≤ 4 ∧ T = nm m) ∨ (m = 0 ∧ ∀ i, 1 ≤ i → i ≤ 4 → nm i ≠ T)
theorem NameOf.at {T : ByteArray} {m : Nat} (h : NameOf T m) (i : Nat) (h1 : 1 ≤ i) (h2 : i ≤ 4) : (nm i = T ↔ i = m) := by
  rcases h with ⟨h3, h4, rfl⟩ | ⟨rfl, h3⟩
  · exact ⟨fun e => nm_inj h1 h2 h3 h4 e, fun e => by rw [e]⟩
  · exact ⟨fun e => absurd e (h3 i h1 h2), fun e => by omega⟩
theorem NameOf.le {T : ByteArray} {m : Nat} (h : NameOf T m) : m ≤ 4 := by
  rcases h with ⟨_, h4, _⟩ | ⟨rfl, _⟩ <;> omega

end Go.Proofs.YtoakmlopjeecoaaGreatDoor.Rd

namespace Go.Proofs.YtoakmlopjeecoaaGreatDoor.Rd
open Go Go.RowKit
set_option linter.unusedVariables false
set_option linter.unusedSimpArgs false
set_option maxRecDepth 100000

end Go.Proofs.YtoakmlopjeecoaaGreatDoor.Rd
