/- What the references' Some, ref07.Value answer. -/
import Derived.Test.YtefpoconpeggpaaGreatDoorJ09
namespace Go.Proofs.YtefpoconpeggpaaGreatDoor.Rd
open Go Go.RowKit
set_option linter.unusedVariables false
set_option linter.unusedSimpArgs false
set_option maxRecDepth 100000

/-- A finite word's exponent. -/
def wExp (f m : Nat) : Int := ((wField f m - 1 : Nat) : Int) + (1 - (fE f : Int)) - fP f + 1
theorem wField_lt (f m : Nat) : wField f m < 32768 := Nat.lt_of_lt_of_le (Nat.mod_lt _ (Nat.pow_pos (by omega))) (Nat.le_trans (Nat.pow_le_pow_right (by omega) (fK_in f).2) (by decide))

set_option maxHeartbeats 4000000 in
theorem unpack_made (f : Nat) (h1 : 1 ≤ f) (h4 : f ≤ 4) (m : Nat) (hm : m < 2 ^ fB f) (hfin : finB f m = true) (g : FuncId) (hg : GoF Tryz.prog g) (r : Array Value) (bo : Bool) (hr1 : r.size = 10) (hr2 : OneC r) (w0 : World) (hF : FmtIn w0)
    (hgv : ∀ w, Keeps [] w0 w → GivesAt Tryz.prog g #[.agg (fmC f), .agg (nbC (wNeg f m) (wExp f m) (wSig f m))] (.tuple #[.agg r, .bool bo]) w) : GivesAt Tryz.prog 101 #[.int .i64 f, Wd m, .func (.func g) #[] #[]] (.tuple #[.agg r, .bool bo]) w0 := by
  have hst := St.start [] w0
  have hk := Lib.hid (fun w (k : Keeps [] w0 w) => hF.keep k (by simp))
  have hm2 : m < M2 := Nat.lt_of_lt_of_le hm (by
    have := (fB_in f).2
    exact Nat.pow_le_pow_right (by omega) this)
  have hfi := fun w h => class_Finite f h1 h4 m hm2 w h
  rw [hfin] at hfi
  have hof := fun w h => format_Of f h1 h4 w h
  have hfd := fun w h => class_Field f h1 h4 m hm w h
  have hfr := fun w h => class_Fraction f h1 h4 m hm w h
  have hng := fun w h => class_Neg f h1 h4 m hm w h
  have hP := fP_in f
  have hE := fE_in f
  have hl := wField_lt f m
  have hfl := wFrac_lt f m
  have z1 := fmC_size f
  have z2 := fmC_one f
  have g1 : (fmC f)[0 + 1]? = some (.int .i64 (fP f : Nat)) := rfl
  have g3 : (fmC f)[0 + 3]? = some (.int .i64 (1 - (fE f : Int))) := rfl
  have hw1 : IntKind.i64.wrap ((fP f : Int) - 1) = (fP f : Int) - 1 := by rw [IntKind.wrap_i64]; omega
  have hgv' := Lib.hid hgv
  unfold nbC at hgv'
  by_cases h0 : wField f m = 0
  · have e1 : wSig f m = wFrac f m := by unfold wSig; rw [if_pos h0]
    have e2 : wExp f m = 0 + (1 - (fE f : Int)) - fP f + 1 := by unfold wExp; rw [h0]; rfl
    have W1 : IntKind.i64.wrap (0 + (1 - (fE f : Int))) = 0 + (1 - (fE f : Int)) := by rw [IntKind.wrap_i64]; omega
    have W2 : IntKind.i64.wrap (0 + (1 - (fE f : Int)) - fP f) = 0 + (1 - (fE f : Int)) - fP f := by rw [IntKind.wrap_i64]; omega
    have W3 : IntKind.i64.wrap (0 + (1 - (fE f : Int)) - fP f + 1) = 0 + (1 - (fE f : Int)) - fP f + 1 := by rw [IntKind.wrap_i64]; omega
    have V1 : IntKind.i64.wrap (1 - (fE f : Int)) = 1 - (fE f : Int) := by rw [IntKind.wrap_i64]; omega
    have V2 : IntKind.i64.wrap (1 - (fE f : Int) - fP f) = 1 - (fE f : Int) - fP f := by rw [IntKind.wrap_i64]; omega
    have V3 : IntKind.i64.wrap (1 - (fE f : Int) - fP f + 1) = 1 - (fE f : Int) - fP f + 1 := by rw [IntKind.wrap_i64]; omega
    rw [e1, e2, Int.zero_add] at hgv'
    rw [h0, show ((0 : Nat) : Int) = 0 from rfl] at hfd
    clear hF hm hm2 hgv e1 e2 h0 hl hfl hfin
    generalize wFrac f m = fr at *
    generalize wNeg f m = ng at *
    generalize fmC f = cs at *
    go_enter Tryz.func101, Tryz.ntmps101
    go_wp2_with ((first | (refine kg gf124 hst (fun w hst => hfi w (hk.out w hst.keeps)) rfl rfl rfl rfl ?_; clear hst; intro w hst) | (refine kg gf70 hst (fun w hst => hof w (hk.out w hst.keeps)) rfl rfl rfl rfl ?_; clear hst; intro w hst) | (refine kb 4 hst rfl rfl ?_; clear hst; intro b4 w hb4 hst) | (refine ka 6 hst tz46 rfl rfl ?_; clear hst; intro b6 w hb6 hst) | (refine kl hst ta24 rfl ?_) | (refine ka 8 hst tz128 rfl rfl ?_; clear hst; intro b8 w hb8 hst) | (refine kt hst ta128 rfl rfl ?_; clear hst; intro w hst)); try simp only [pz, pn, sz, sc])
    refine wp_region_T 8  hst (by kernel_rfl) ?_; clear hst; intro w hst; (try simp only [List.length_cons, List.length_nil, Nat.reduceAdd, Array.replicate_succ, Array.replicate_zero, List.push_toArray, List.nil_append, List.cons_append])
    refine r0 0 ?_; simp only [pz, pn, sz, sc]
    refine r0 3 ?_; simp only [pz, pn, sz, sc]
    refine rl 1 rfl ?_ (by first | exact ylA ta24 | exact ylM ta24); simp only [pz, pn, sz, sc]
    refine rl 4 rfl ?_ (by first | exact ylA ta24 | exact ylM ta24); simp only [pz, pn, sz, sc]
    refine r2 2 6 ?_ ?_
    (refine kg gf125 hst (fun w hst => hfd w (hk.out w hst.keeps)) rfl rfl rfl rfl ?_; clear hst; intro w hst); (try simp only [pz, pn, sz, sc]); refine re ?_
    refine r2 5 6 ?_ ?_
    (refine kg gf126 hst (fun w hst => hfr w (hk.out w hst.keeps)) rfl rfl rfl rfl ?_; clear hst; intro w hst); (try simp only [pz, pn, sz, sc]); refine re ?_
    refine r1 6 ?_; (refine ka 11 hst tz44 rfl rfl ?_; clear hst; intro b11 w hb11 hst); (try simp only [pz, pn, sz, sc]); refine re ?_
    refine r0 7 ?_; simp only [pz, pn, sz, sc]
    refine r1 8 ?_; (refine kt hst ta44 rfl rfl ?_; clear hst; intro w hst); (try simp only [pz, pn, sz, sc]); refine re ?_
    refine rd_ ?_
    rotate_left 1
    (refine ka 11 hst tz44 rfl rfl ?_; clear hst; intro b11 w hb11 hst); (try simp only [pz, pn, sz, sc]); refine re ?_
    refine r1 5 ?_; (refine kg gf126 hst (fun w hst => hfr w (hk.out w hst.keeps)) rfl rfl rfl rfl ?_; clear hst; intro w hst); (try simp only [pz, pn, sz, sc]); refine re ?_
    refine r0 7 ?_; simp only [pz, pn, sz, sc]
    refine r1 8 ?_; (refine kt hst ta44 rfl rfl ?_; clear hst; intro w hst); (try simp only [pz, pn, sz, sc]); refine re ?_
    refine rd_ ?_
    rotate_right 1
    rotate_left 2
    (refine ka 11 hst tz44 rfl rfl ?_; clear hst; intro b11 w hb11 hst); (try simp only [pz, pn, sz, sc]); refine re ?_
    refine r1 2 ?_; (refine kg gf125 hst (fun w hst => hfd w (hk.out w hst.keeps)) rfl rfl rfl rfl ?_; clear hst; intro w hst); (try simp only [pz, pn, sz, sc]); refine re ?_
    refine r1 5 ?_; (refine kg gf126 hst (fun w hst => hfr w (hk.out w hst.keeps)) rfl rfl rfl rfl ?_; clear hst; intro w hst); (try simp only [pz, pn, sz, sc]); refine re ?_
    refine r0 7 ?_; simp only [pz, pn, sz, sc]
    refine r1 8 ?_; (refine kt hst ta44 rfl rfl ?_; clear hst; intro w hst); (try simp only [pz, pn, sz, sc]); refine re ?_
    refine rd_ ?_
    rotate_right 2
    all_goals
      go_wp2_with fail
      refine wp_region_T 18  hst (by kernel_rfl) ?_; clear hst; intro w hst; (try simp only [List.length_cons, List.length_nil, Nat.reduceAdd, Array.replicate_succ, Array.replicate_zero, List.push_toArray, List.nil_append, List.cons_append])
      refine r0 0 ?_; simp only [pz, pn, sz, sc, W1, W2, W3, V1, V2, V3, Int.zero_add]
      refine r0 2 ?_; simp only [pz, pn, sz, sc, W1, W2, W3, V1, V2, V3, Int.zero_add]
      refine r0 5 ?_; simp only [pz, pn, sz, sc, W1, W2, W3, V1, V2, V3, Int.zero_add]
      refine r0 6 ?_; simp only [pz, pn, sz, sc, W1, W2, W3, V1, V2, V3, Int.zero_add]
      refine r0 9 ?_; simp only [pz, pn, sz, sc, W1, W2, W3, V1, V2, V3, Int.zero_add]
      refine rl 1 rfl ?_ (by first | exact ylA ta128 | exact ylM ta128); simp only [pz, pn, sz, sc, W1, W2, W3, V1, V2, V3, Int.zero_add]
      refine rl 3 rfl ?_ (by first | exact ylA ta24 | exact ylM ta24); simp only [pz, pn, sz, sc, W1, W2, W3, V1, V2, V3, Int.zero_add]
      refine rl 7 rfl ?_ (ylC tc3); simp only [pz, pn, sz, sc, W1, W2, W3, V1, V2, V3, Int.zero_add]
      refine r0 8 ?_; simp only [pz, pn, sz, sc, W1, W2, W3, V1, V2, V3, Int.zero_add]
      refine rl 10 rfl ?_ (ylC tc3); simp only [pz, pn, sz, sc, W1, W2, W3, V1, V2, V3, Int.zero_add]
      refine r0 11 ?_; simp only [pz, pn, sz, sc, W1, W2, W3, V1, V2, V3, Int.zero_add]
      refine r0 12 ?_; simp only [pz, pn, sz, sc, W1, W2, W3, V1, V2, V3, Int.zero_add]
      refine rl 13 rfl ?_ (by first | exact ylA ta44 | exact ylM ta44); simp only [pz, pn, sz, sc, W1, W2, W3, V1, V2, V3, Int.zero_add]
      refine r1 4 ?_; (refine kg gf128 hst (fun w hst => hng w (hk.out w hst.keeps)) rfl rfl rfl rfl ?_; clear hst; intro w hst); (try simp only [pz, pn, sz, sc, W1, W2, W3, V1, V2, V3, Int.zero_add]); refine re ?_
      refine r0 14 ?_ (hy := yB (tb46_012 _ _ _)); simp only [pz, pn, sz, sc, W1, W2, W3, V1, V2, V3, Int.zero_add]
      refine r1 15 ?_; (refine kg hg hst (fun w hst => hgv'.out w hst.keeps) rfl rfl rfl rfl ?_; clear hst; intro w hst); (try simp only [pz, pn, sz, sc, W1, W2, W3, V1, V2, V3, Int.zero_add]); refine re ?_
      refine r0 16 ?_; simp only [pz, pn, sz, sc, W1, W2, W3, V1, V2, V3, Int.zero_add]
      refine r0 17 ?_; simp only [pz, pn, sz, sc, W1, W2, W3, V1, V2, V3, Int.zero_add]
      refine r1 18 ?_; (refine kt hst ta46 rfl rfl ?_; clear hst; intro w hst); (try simp only [pz, pn, sz, sc, W1, W2, W3, V1, V2, V3, Int.zero_add]); refine re ?_
      refine r0 19 ?_; simp only [pz, pn, sz, sc, W1, W2, W3, V1, V2, V3, Int.zero_add]
      refine rd_ ?_
      all_goals
        go_wp2_with fail
        refine bp_ct rfl rfl (la hst ta46) (by rfl) ⟨?_, hst.keeps⟩
        rfl
  · have e1 : wSig f m = wFrac f m + 2 ^ (fP f - 1) := by unfold wSig; rw [if_neg h0]
    obtain ⟨d, hd⟩ : ∃ d, wField f m = d + 1 := ⟨wField f m - 1, by omega⟩
    have e2 : wExp f m = (d : Int) + (1 - (fE f : Int)) - fP f + 1 := by unfold wExp; rw [hd]; rfl
    have hpM : 2 ^ (fP f - 1) < M := small_M2 _ (by omega)
    have hpw := wide_Power ((fP f : Int) - 1)
    have hp2 : pow2 ((fP f : Int) - 1) = 2 ^ (fP f - 1) := by
      unfold pow2
      rw [if_pos (by omega)]
      congr 1; omega
    rw [hp2] at hpw
    have hsg : wFrac f m + 2 ^ (fP f - 1) < M := by
      have := small_M2 (fP f) (by omega)
      have e : 2 ^ fP f = 2 ^ (fP f - 1) + 2 ^ (fP f - 1) := by
        obtain ⟨p, hp⟩ : ∃ p, fP f = p + 1 := ⟨fP f - 1, by omega⟩
        rw [hp, Nat.add_sub_cancel, Nat.pow_succ]; omega
      omega
    have hadd := wide_Add (wFrac f m) (2 ^ (fP f - 1)) (by omega) hpM
    rw [Nat.mod_eq_of_lt hsg] at hadd
    have W1 : IntKind.i64.wrap ((d : Int) + (1 - (fE f : Int))) = (d : Int) + (1 - (fE f : Int)) := by rw [IntKind.wrap_i64]; omega
    have W2 : IntKind.i64.wrap ((d : Int) + (1 - (fE f : Int)) - fP f) = (d : Int) + (1 - (fE f : Int)) - fP f := by rw [IntKind.wrap_i64]; omega
    have W3 : IntKind.i64.wrap ((d : Int) + (1 - (fE f : Int)) - fP f + 1) = (d : Int) + (1 - (fE f : Int)) - fP f + 1 := by rw [IntKind.wrap_i64]; omega
    rw [e1, e2] at hgv'
    rw [hd, show ((d + 1 : Nat) : Int) = (d : Int) + 1 by omega] at hfd
    have hd0 : (0 : Int) < (d : Int) + 1 := by omega
    have hdl : d < 32768 := by omega
    clear hF hm hm2 hgv e1 e2 h0 hl hfl hfin hd hpM hp2 hsg
    generalize wFrac f m + 2 ^ (fP f - 1) = sg at *
    generalize 2 ^ (fP f - 1) = pw at *
    generalize wFrac f m = fr at *
    generalize wNeg f m = ng at *
    generalize fmC f = cs at *
    go_enter Tryz.func101, Tryz.ntmps101
    go_wp2_with ((first | (refine kg gf124 hst (fun w hst => hfi w (hk.out w hst.keeps)) rfl rfl rfl rfl ?_; clear hst; intro w hst) | (refine kg gf70 hst (fun w hst => hof w (hk.out w hst.keeps)) rfl rfl rfl rfl ?_; clear hst; intro w hst) | (refine kb 4 hst rfl rfl ?_; clear hst; intro b4 w hb4 hst) | (refine ka 6 hst tz46 rfl rfl ?_; clear hst; intro b6 w hb6 hst) | (refine kl hst ta24 rfl ?_) | (refine ka 8 hst tz128 rfl rfl ?_; clear hst; intro b8 w hb8 hst) | (refine kt hst ta128 rfl rfl ?_; clear hst; intro w hst)); try simp only [pz, pn, sz, sc])
    refine wp_region_T 8  hst (by kernel_rfl) ?_; clear hst; intro w hst; (try simp only [List.length_cons, List.length_nil, Nat.reduceAdd, Array.replicate_succ, Array.replicate_zero, List.push_toArray, List.nil_append, List.cons_append])
    refine r0 0 ?_; simp only [pz, pn, sz, sc]
    refine r0 3 ?_; simp only [pz, pn, sz, sc]
    refine rl 1 rfl ?_ (by first | exact ylA ta24 | exact ylM ta24); simp only [pz, pn, sz, sc]
    refine rl 4 rfl ?_ (by first | exact ylA ta24 | exact ylM ta24); simp only [pz, pn, sz, sc]
    refine r2 2 6 ?_ ?_
    (refine kg gf125 hst (fun w hst => hfd w (hk.out w hst.keeps)) rfl rfl rfl rfl ?_; clear hst; intro w hst); (try simp only [pz, pn, sz, sc]); refine re ?_
    refine r2 5 6 ?_ ?_
    (refine kg gf126 hst (fun w hst => hfr w (hk.out w hst.keeps)) rfl rfl rfl rfl ?_; clear hst; intro w hst); (try simp only [pz, pn, sz, sc]); refine re ?_
    refine r1 6 ?_; (refine ka 11 hst tz44 rfl rfl ?_; clear hst; intro b11 w hb11 hst); (try simp only [pz, pn, sz, sc]); refine re ?_
    refine r0 7 ?_; simp only [pz, pn, sz, sc]
    refine r1 8 ?_; (refine kt hst ta44 rfl rfl ?_; clear hst; intro w hst); (try simp only [pz, pn, sz, sc]); refine re ?_
    refine rd_ ?_
    rotate_left 1
    (refine ka 11 hst tz44 rfl rfl ?_; clear hst; intro b11 w hb11 hst); (try simp only [pz, pn, sz, sc]); refine re ?_
    refine r1 5 ?_; (refine kg gf126 hst (fun w hst => hfr w (hk.out w hst.keeps)) rfl rfl rfl rfl ?_; clear hst; intro w hst); (try simp only [pz, pn, sz, sc]); refine re ?_
    refine r0 7 ?_; simp only [pz, pn, sz, sc]
    refine r1 8 ?_; (refine kt hst ta44 rfl rfl ?_; clear hst; intro w hst); (try simp only [pz, pn, sz, sc]); refine re ?_
    refine rd_ ?_
    rotate_right 1
    rotate_left 2
    (refine ka 11 hst tz44 rfl rfl ?_; clear hst; intro b11 w hb11 hst); (try simp only [pz, pn, sz, sc]); refine re ?_
    refine r1 2 ?_; (refine kg gf125 hst (fun w hst => hfd w (hk.out w hst.keeps)) rfl rfl rfl rfl ?_; clear hst; intro w hst); (try simp only [pz, pn, sz, sc]); refine re ?_
    refine r1 5 ?_; (refine kg gf126 hst (fun w hst => hfr w (hk.out w hst.keeps)) rfl rfl rfl rfl ?_; clear hst; intro w hst); (try simp only [pz, pn, sz, sc]); refine re ?_
    refine r0 7 ?_; simp only [pz, pn, sz, sc]
    refine r1 8 ?_; (refine kt hst ta44 rfl rfl ?_; clear hst; intro w hst); (try simp only [pz, pn, sz, sc]); refine re ?_
    refine rd_ ?_
    rotate_right 2
    all_goals
      go_wp2_with fail
      refine wp_region_T 9  hst (by kernel_rfl) ?_; clear hst; intro w hst; (try simp only [List.length_cons, List.length_nil, Nat.reduceAdd, Array.replicate_succ, Array.replicate_zero, List.push_toArray, List.nil_append, List.cons_append])
      refine r0 1 ?_; simp only [pz, pn, sz, sc, hw1]
      refine rl 0 rfl ?_ (by first | exact ylA ta44 | exact ylM ta44); simp only [pz, pn, sz, sc, hw1]
      refine rl 2 rfl ?_ (ylC tc3); simp only [pz, pn, sz, sc, hw1]
      refine r0 3 ?_; simp only [pz, pn, sz, sc, hw1]
      refine r1 4 ?_; (refine kf gf127 hst (hpw) rfl rfl rfl rfl ?_; clear hst; intro w hst); (try simp only [pz, pn, sz, sc, hw1]); refine re ?_
      refine r1 5 ?_; (refine kf gf104 hst (hadd) rfl rfl rfl rfl ?_; clear hst; intro w hst); (try simp only [pz, pn, sz, sc, hw1]); refine re ?_
      refine r0 6 ?_; simp only [pz, pn, sz, sc, hw1]
      refine r0 7 ?_; simp only [pz, pn, sz, sc, hw1]
      refine r0 8 ?_; simp only [pz, pn, sz, sc, hw1]
      refine r1 9 ?_; (refine kt hst ta44 rfl rfl ?_; clear hst; intro w hst); (try simp only [pz, pn, sz, sc, hw1]); refine re ?_
      refine rd_ ?_
      all_goals
        go_wp2_with fail
        refine wp_region_T 18  hst (by kernel_rfl) ?_; clear hst; intro w hst; (try simp only [List.length_cons, List.length_nil, Nat.reduceAdd, Array.replicate_succ, Array.replicate_zero, List.push_toArray, List.nil_append, List.cons_append])
        refine r0 0 ?_; simp only [pz, pn, sz, sc, W1, W2, W3]
        refine r0 2 ?_; simp only [pz, pn, sz, sc, W1, W2, W3]
        refine r0 5 ?_; simp only [pz, pn, sz, sc, W1, W2, W3]
        refine r0 6 ?_; simp only [pz, pn, sz, sc, W1, W2, W3]
        refine r0 9 ?_; simp only [pz, pn, sz, sc, W1, W2, W3]
        refine rl 1 rfl ?_ (by first | exact ylA ta128 | exact ylM ta128); simp only [pz, pn, sz, sc, W1, W2, W3]
        refine rl 3 rfl ?_ (by first | exact ylA ta24 | exact ylM ta24); simp only [pz, pn, sz, sc, W1, W2, W3]
        refine rl 7 rfl ?_ (ylC tc3); simp only [pz, pn, sz, sc, W1, W2, W3]
        refine r0 8 ?_; simp only [pz, pn, sz, sc, W1, W2, W3]
        refine rl 10 rfl ?_ (ylC tc3); simp only [pz, pn, sz, sc, W1, W2, W3]
        refine r0 11 ?_; simp only [pz, pn, sz, sc, W1, W2, W3]
        refine r0 12 ?_; simp only [pz, pn, sz, sc, W1, W2, W3]
        refine rl 13 rfl ?_ (by first | exact ylA ta44 | exact ylM ta44); simp only [pz, pn, sz, sc, W1, W2, W3]
        refine r1 4 ?_; (refine kg gf128 hst (fun w hst => hng w (hk.out w hst.keeps)) rfl rfl rfl rfl ?_; clear hst; intro w hst); (try simp only [pz, pn, sz, sc, W1, W2, W3]); refine re ?_
        refine r0 14 ?_ (hy := yB (tb46_012 _ _ _)); simp only [pz, pn, sz, sc, W1, W2, W3]
        refine r1 15 ?_; (refine kg hg hst (fun w hst => hgv'.out w hst.keeps) rfl rfl rfl rfl ?_; clear hst; intro w hst); (try simp only [pz, pn, sz, sc, W1, W2, W3]); refine re ?_
        refine r0 16 ?_; simp only [pz, pn, sz, sc, W1, W2, W3]
        refine r0 17 ?_; simp only [pz, pn, sz, sc, W1, W2, W3]
        refine r1 18 ?_; (refine kt hst ta46 rfl rfl ?_; clear hst; intro w hst); (try simp only [pz, pn, sz, sc, W1, W2, W3]); refine re ?_
        refine r0 19 ?_; simp only [pz, pn, sz, sc, W1, W2, W3]
        refine rd_ ?_
        all_goals
          go_wp2_with fail
          refine bp_ct rfl rfl (la hst ta46) (by rfl) ⟨?_, hst.keeps⟩
          rfl

theorem nbC_zero : nbC false 0 0 = #[.bool false, .int .i64 0, .int .u64 0, .int .u64 0, .int .u64 0, .int .u64 0, .int .u64 0, .int .u64 0, .int .u64 0, .int .u64 0] := by kernel_rfl

theorem unpack_made_no (f : Nat) (h1 : 1 ≤ f) (h4 : f ≤ 4) (m : Nat) (hm2 : m < M2) (hfin : finB f m = false) (g : Value) (w0 : World) (hF : FmtIn w0) : GivesAt Tryz.prog 101 #[.int .i64 f, Wd m, g] (.tuple #[.agg (nbC false 0 0), .bool false]) w0 := by
  have hst := St.start [] w0
  have hk := Lib.hid (fun w (k : Keeps [] w0 w) => hF.keep k (by simp))
  have hfi := fun w h => class_Finite f h1 h4 m hm2 w h
  rw [hfin] at hfi
  clear hF hfin
  go_enter Tryz.func101, Tryz.ntmps101
  go_wp2_with ((first | (refine kg gf124 hst (fun w hst => hfi w (hk.out w hst.keeps)) rfl rfl rfl rfl ?_; clear hst; intro w hst) | (refine kb 4 hst rfl rfl ?_; clear hst; intro b4 w hb4 hst) | (refine ka 6 hst tz46 rfl rfl ?_; clear hst; intro b6 w hb6 hst) | (refine kl hst ta24 rfl ?_) | (refine kt hst ta46 rfl rfl ?_; clear hst; intro w hst)); try simp only [pz, pn, sz, sc])
  refine bp_ct rfl rfl (la hst ta46) (by rfl) ⟨?_, hst.keeps⟩
  rw [nbC_zero]; rfl

theorem unpack_made_non (f : Int) (h : f < 1 ∨ 4 < f) (m : Nat) (g : Value) : Gives Tryz.prog 101 #[.int .i64 f, Wd m, g] (.tuple #[.agg (nbC false 0 0), .bool false]) := by
  intro w0
  have hst := St.start [] w0
  have hfi := class_Finite_non f h m
  clear h
  go_enter Tryz.func101, Tryz.ntmps101
  go_wp2_with ((first | (refine kf gf124 hst (hfi) rfl rfl rfl rfl ?_; clear hst; intro w hst) | (refine kb 4 hst rfl rfl ?_; clear hst; intro b4 w hb4 hst) | (refine ka 6 hst tz46 rfl rfl ?_; clear hst; intro b6 w hb6 hst) | (refine kl hst ta24 rfl ?_) | (refine kt hst ta46 rfl rfl ?_; clear hst; intro w hst)); try simp only [pz, pn, sz, sc])
  refine bp_ct rfl rfl (la hst ta46) (by rfl) ⟨?_, hst.keeps⟩
  rw [nbC_zero]; rfl

theorem unpack_Unpack_1 (f : Nat) (ng : Bool) (e : Int) (n : Nat) (he1 : -100000 ≤ e) (he2 : e ≤ 100000) (hn : n ≠ 0) (hnP : n < 2 ^ fP f) : Gives Tryz.prog 102 #[.agg (fmC f), .agg (nbC ng e n)] (.tuple #[.agg (nbC ng (e - (fP f - bl n : Nat)) (n * 2 ^ (fP f - bl n))), .bool true]) := by
  intro w0
  have hst := St.start [] w0
  have hP := fP_in f
  have hnM : n < M := Nat.lt_trans hnP (small_M2 _ (by omega))
  have hlen := wide_Len n hnM
  have hbl : bl n ≤ fP f := bl_le.2 hnP
  have hlt : n * 2 ^ (fP f - bl n) < M := by
    have a := (bl_spec n).1
    have := Nat.mul_lt_mul_of_pos_right a (show 0 < 2 ^ (fP f - bl n) from Nat.pow_pos (by omega))
    rw [← Nat.pow_add, show bl n + (fP f - bl n) = fP f by omega] at this
    exact Nat.lt_trans this (small_M2 _ (by omega))
  have hshl := wide_Shl n (fP f - bl n : Nat) hnM
  rw [clampN_nat _ (by omega), Nat.mod_eq_of_lt hlt] at hshl
  have c1 : ((fP f - bl n : Nat) : Int) = (fP f : Int) - (bl n : Int) := by omega
  rw [c1] at hshl ⊢
  have hW1 : IntKind.i64.wrap ((fP f : Int) - (bl n : Int)) = (fP f : Int) - (bl n : Int) := by rw [IntKind.wrap_i64]; omega
  have hW2 : IntKind.i64.wrap (e - ((fP f : Int) - (bl n : Int))) = e - ((fP f : Int) - (bl n : Int)) := by rw [IntKind.wrap_i64]; omega
  have Q0 : decide (n = 0) = false := by simpa using hn
  have hM := M_pos
  have z1 := fmC_size f
  have z2 := fmC_one f
  have g1 : (fmC f)[0 + 1]? = some (.int .i64 (fP f : Nat)) := rfl
  unfold nbC
  have y1 : (#[Value.bool ng, .int .i64 e] ++ wc 8 n).size = 10 := by simp
  have y2 : OneC (#[Value.bool ng, .int .i64 e] ++ wc 8 n) := nbC_one ng e n
  generalize n * 2 ^ (fP f - bl n) = n2 at *
  generalize bl n = k at *
  generalize fP f = p at *
  generalize fmC f = cs at *
  clear hlt c1 hnP hn
  go_enter Tryz.func102, Tryz.ntmps102
  go_wp2_with ((first | (refine klm hst ta44 rfl ?_ (hc := part1 2 _ _ _ rfl rfl)) | (refine kb 2 hst rfl rfl ?_; clear hst; intro b2 w hb2 hst) | (refine kb 3 hst rfl rfl ?_; clear hst; intro b3 w hb3 hst) | (refine ka 4 hst tz46 rfl rfl ?_; clear hst; intro b4 w hb4 hst) | (refine ke tr44 tc22 rfl ?_)); try simp only [pz, pn, sz, sc])
  refine wp_region_T 7  hst (by kernel_rfl) ?_; clear hst; intro w hst; (try simp only [List.length_cons, List.length_nil, Nat.reduceAdd, Array.replicate_succ, Array.replicate_zero, List.push_toArray, List.nil_append, List.cons_append])
  refine r0 0 ?_; simp only [pz, pn, sz, sc, hW1]
  refine r0 2 ?_; simp only [pz, pn, sz, sc, hW1]
  refine rl 1 rfl ?_ (ylC tc3); simp only [pz, pn, sz, sc, hW1]
  refine rl 3 rfl ?_ (by first | exact ylA ta44 | exact ylM ta44); simp only [pz, pn, sz, sc, hW1]
  refine r1 4 ?_; (refine kf gf47 hst (hlen) rfl rfl rfl rfl ?_; clear hst; intro w hst); (try simp only [pz, pn, sz, sc, hW1]); refine re ?_
  refine r0 5 ?_; simp only [pz, pn, sz, sc, hW1]
  refine r0 6 ?_; simp only [pz, pn, sz, sc, hW1]
  refine rd_ ?_
  go_wp2_with fail
  refine wp_region_T 11  hst (by kernel_rfl) ?_; clear hst; intro w hst; (try simp only [List.length_cons, List.length_nil, Nat.reduceAdd, Array.replicate_succ, Array.replicate_zero, List.push_toArray, List.nil_append, List.cons_append])
  refine r0 0 ?_; simp only [pz, pn, sz, sc, hW2]
  refine r0 2 ?_; simp only [pz, pn, sz, sc, hW2]
  refine r0 4 ?_; simp only [pz, pn, sz, sc, hW2]
  refine r0 6 ?_; simp only [pz, pn, sz, sc, hW2]
  refine r0 8 ?_; simp only [pz, pn, sz, sc, hW2]
  refine rl 1 rfl ?_ (ylC tc4); simp only [pz, pn, sz, sc, hW2]
  refine rl 3 rfl ?_ (ylC tc3); simp only [pz, pn, sz, sc, hW2]
  refine r0 5 ?_; simp only [pz, pn, sz, sc, hW2]
  refine rl 7 rfl ?_ (by first | exact ylA ta44 | exact ylM ta44); simp only [pz, pn, sz, sc, hW2]
  refine r1 9 ?_; (refine kf gf48 hst (hshl) rfl rfl rfl rfl ?_; clear hst; intro w hst); (try simp only [pz, pn, sz, sc, hW2]); refine re ?_
  refine r0 10 ?_ (hy := yB (tb46_012 _ _ _)); simp only [pz, pn, sz, sc, hW2]
  refine r1 11 ?_; (refine kt hst ta46 rfl rfl ?_; clear hst; intro w hst); (try simp only [pz, pn, sz, sc, hW2]); refine re ?_
  refine r0 12 ?_; simp only [pz, pn, sz, sc, hW2]
  refine rd_ ?_
  all_goals
    go_wp2_with fail
    refine bp_ct rfl rfl (la hst ta46) (by rfl) ⟨?_, hst.keeps⟩
    rfl

theorem unpack_Unpack_0 (f : Nat) (ng : Bool) (e : Int) : Gives Tryz.prog 102 #[.agg (fmC f), .agg (nbC ng e 0)] (.tuple #[.agg (nbC false 0 0), .bool false]) := by
  intro w0
  have hst := St.start [] w0
  have z1 := fmC_size f
  have z2 := fmC_one f
  have Q0 : decide (0 = 0) = true := rfl
  have hM := M_pos
  rw [nbC_zero]
  unfold nbC
  have y1 : (#[Value.bool ng, .int .i64 e] ++ wc 8 0).size = 10 := by simp
  have y2 : OneC (#[Value.bool ng, .int .i64 e] ++ wc 8 0) := nbC_one ng e 0
  generalize fmC f = cs at *
  go_enter Tryz.func102, Tryz.ntmps102
  go_wp2_with ((first | (refine klm hst ta44 rfl ?_ (hc := part1 2 _ _ _ rfl rfl)) | (refine kb 2 hst rfl rfl ?_; clear hst; intro b2 w hb2 hst) | (refine kb 3 hst rfl rfl ?_; clear hst; intro b3 w hb3 hst) | (refine ka 4 hst tz46 rfl rfl ?_; clear hst; intro b4 w hb4 hst) | (refine ke tr44 tc22 rfl ?_) | (refine kt hst ta46 rfl rfl ?_; clear hst; intro w hst)); try simp only [pz, pn, sz, sc])
  refine bp_ct rfl rfl (la hst ta46) (by rfl) ⟨?_, hst.keeps⟩
  rfl

end Go.Proofs.YtefpoconpeggpaaGreatDoor.Rd

namespace Go.Proofs.YtefpoconpeggpaaGreatDoor.Rd
open Go Go.RowKit
set_option linter.unusedVariables false
set_option linter.unusedSimpArgs false
set_option maxRecDepth 100000

theorem ref24_Some_of (f : Int) (m : Nat) (k : Nat) (hk : k ≤ 6) (hc : Gives Tryz.prog 64 #[.int .i64 f, Wd m] (.int .i64 k)) : Gives Tryz.prog 32 #[.int .i64 f, Wd m] (.bool (decide (k = 4) || decide (k = 5))) := by
  intro w0
  have hst := St.start [] w0
  obtain rfl | rfl | rfl | rfl | rfl | rfl | rfl : k = 0 ∨ k = 1 ∨ k = 2 ∨ k = 3 ∨ k = 4 ∨ k = 5 ∨ k = 6 := by omega
  all_goals
    simp only [Int.natCast_zero, Int.natCast_one, Int.cast_ofNat_Int] at hc
    go_enter Tryz.func32, Tryz.ntmps32
    go_wp2_with ((first | (refine kf gf64 hst (hc) rfl rfl rfl rfl ?_; clear hst; intro w hst) | (refine kb 3 hst rfl rfl ?_; clear hst; intro b3 w hb3 hst) | (refine kl hst ta24 rfl ?_)); try simp only [pz, pn, sz, sc])
    refine bp_t rfl rfl (by rfl) ⟨?_, hst.keeps⟩
    rfl

theorem clsN_le (f m : Nat) : clsN f m ≤ 6 := by unfold clsN; (repeat' split) <;> omega

set_option maxHeartbeats 4000000 in
theorem ref07_Value (f : Nat) (h1 : 1 ≤ f) (h4 : f ≤ 4) (m : Nat) (hm : m < M2) (hf : m < 2 ^ fB f) : Gives Tryz.prog 14 #[.int .i64 f, Wd m] (.agg (nbC (wNeg f m) (wExp f m) (wSig f m))) := by
  intro w0
  have hst := St.start [] w0
  have hfd := ref06_Field f h1 h4 m hm
  have hng := ref06_Neg f h1 h4 m hm hf
  have hfr := ref06_Fraction f h1 h4 m hm
  have hem := ref05_EMin f h1 h4
  have hpr := ref05_Prec f h1 h4
  have hP := fP_in f
  have hE := fE_in f
  have hl := wField_lt f m
  have hfl := wFrac_lt f m
  have W2 : IntKind.i64.wrap (1 - (fE f : Int) - fP f) = 1 - (fE f : Int) - fP f := by rw [IntKind.wrap_i64]; omega
  have W3 : IntKind.i64.wrap (1 - (fE f : Int) - fP f + 1) = 1 - (fE f : Int) - fP f + 1 := by rw [IntKind.wrap_i64]; omega
  by_cases h0 : wField f m = 0
  · have e1 : wSig f m = wFrac f m := by unfold wSig; rw [if_pos h0]
    have e2 : wExp f m = 1 - (fE f : Int) - fP f + 1 := by unfold wExp; rw [h0]; simp
    rw [e1, e2]
    rw [h0, show ((0 : Nat) : Int) = 0 from rfl] at hfd
    clear e1 e2 h0 hl hfl hm hf h1 h4
    unfold nbC
    generalize wFrac f m = fr at *
    generalize wNeg f m = ng at *
    generalize fP f = p at *
    generalize fE f = E at *
    have y2 : OneC (#[Value.bool ng, .int .i64 (1 - (E : Int) - p + 1)] ++ wc 8 fr) := nbC_one ng _ fr
    go_enter Tryz.func14, Tryz.ntmps14
    go_wp2_with ((first | (refine kf gf34 hst (hfd) rfl rfl rfl rfl ?_; clear hst; intro w hst) | (refine kb 3 hst rfl rfl ?_; clear hst; intro b3 w hb3 hst) | (refine ka 4 hst tz46 rfl rfl ?_; clear hst; intro b4 w hb4 hst) | (refine kl hst ta24 rfl ?_)); try simp only [pz, pn, sz, sc])
    refine wp_region_T 14  hst (by kernel_rfl) ?_; clear hst; intro w hst; (try simp only [List.length_cons, List.length_nil, Nat.reduceAdd, Array.replicate_succ, Array.replicate_zero, List.push_toArray, List.nil_append, List.cons_append])
    refine r0 0 ?_; simp only [pz, pn, sz, sc, W2, W3]
    refine r0 3 ?_; simp only [pz, pn, sz, sc, W2, W3]
    refine r0 6 ?_; simp only [pz, pn, sz, sc, W2, W3]
    refine r0 8 ?_; simp only [pz, pn, sz, sc, W2, W3]
    refine rl 1 rfl ?_ (by first | exact ylA ta24 | exact ylM ta24); simp only [pz, pn, sz, sc, W2, W3]
    refine rl 4 rfl ?_ (by first | exact ylA ta24 | exact ylM ta24); simp only [pz, pn, sz, sc, W2, W3]
    refine r2 2 13 ?_ ?_
    (refine kf gf35 hst (hng) rfl rfl rfl rfl ?_; clear hst; intro w hst); (try simp only [pz, pn, sz, sc, W2, W3]); refine re ?_
    refine r2 5 13 ?_ ?_
    (refine kf gf36 hst (hfr) rfl rfl rfl rfl ?_; clear hst; intro w hst); (try simp only [pz, pn, sz, sc, W2, W3]); refine re ?_
    refine r2 7 13 ?_ ?_
    (refine kf gf37 hst (hem) rfl rfl rfl rfl ?_; clear hst; intro w hst); (try simp only [pz, pn, sz, sc, W2, W3]); refine re ?_
    refine r2 9 13 ?_ ?_
    (refine kf gf25 hst (hpr) rfl rfl rfl rfl ?_; clear hst; intro w hst); (try simp only [pz, pn, sz, sc, W2, W3]); refine re ?_
    refine r0 10 ?_; simp only [pz, pn, sz, sc, W2, W3]
    refine r0 11 ?_; simp only [pz, pn, sz, sc, W2, W3]
    refine r0 12 ?_ (hy := yB (tb46_021 _ _ _)); simp only [pz, pn, sz, sc, W2, W3]
    refine r1 13 ?_; (refine ka 6 hst tz46 rfl rfl ?_; clear hst; intro b6 w hb6 hst); (try simp only [pz, pn, sz, sc, W2, W3]); refine re ?_
    refine r1 14 ?_; (refine kt hst ta46 rfl rfl ?_; clear hst; intro w hst); (try simp only [pz, pn, sz, sc, W2, W3]); refine re ?_
    refine rd_ ?_
    rotate_left 1
    (refine ka 6 hst tz46 rfl rfl ?_; clear hst; intro b6 w hb6 hst); (try simp only [pz, pn, sz, sc, W2, W3]); refine re ?_
    refine r1 9 ?_; (refine kf gf25 hst (hpr) rfl rfl rfl rfl ?_; clear hst; intro w hst); (try simp only [pz, pn, sz, sc, W2, W3]); refine re ?_
    refine r0 10 ?_; simp only [pz, pn, sz, sc, W2, W3]
    refine r0 11 ?_; simp only [pz, pn, sz, sc, W2, W3]
    refine r0 12 ?_ (hy := yB (tb46_021 _ _ _)); simp only [pz, pn, sz, sc, W2, W3]
    refine r1 14 ?_; (refine kt hst ta46 rfl rfl ?_; clear hst; intro w hst); (try simp only [pz, pn, sz, sc, W2, W3]); refine re ?_
    refine rd_ ?_
    rotate_right 1
    rotate_left 2
    (refine ka 6 hst tz46 rfl rfl ?_; clear hst; intro b6 w hb6 hst); (try simp only [pz, pn, sz, sc, W2, W3]); refine re ?_
    refine r1 7 ?_; (refine kf gf37 hst (hem) rfl rfl rfl rfl ?_; clear hst; intro w hst); (try simp only [pz, pn, sz, sc, W2, W3]); refine re ?_
    refine r1 9 ?_; (refine kf gf25 hst (hpr) rfl rfl rfl rfl ?_; clear hst; intro w hst); (try simp only [pz, pn, sz, sc, W2, W3]); refine re ?_
    refine r0 10 ?_; simp only [pz, pn, sz, sc, W2, W3]
    refine r0 11 ?_; simp only [pz, pn, sz, sc, W2, W3]
    refine r0 12 ?_ (hy := yB (tb46_021 _ _ _)); simp only [pz, pn, sz, sc, W2, W3]
    refine r1 14 ?_; (refine kt hst ta46 rfl rfl ?_; clear hst; intro w hst); (try simp only [pz, pn, sz, sc, W2, W3]); refine re ?_
    refine rd_ ?_
    rotate_right 2
    rotate_left 3
    (refine ka 6 hst tz46 rfl rfl ?_; clear hst; intro b6 w hb6 hst); (try simp only [pz, pn, sz, sc, W2, W3]); refine re ?_
    refine r1 5 ?_; (refine kf gf36 hst (hfr) rfl rfl rfl rfl ?_; clear hst; intro w hst); (try simp only [pz, pn, sz, sc, W2, W3]); refine re ?_
    refine r1 7 ?_; (refine kf gf37 hst (hem) rfl rfl rfl rfl ?_; clear hst; intro w hst); (try simp only [pz, pn, sz, sc, W2, W3]); refine re ?_
    refine r1 9 ?_; (refine kf gf25 hst (hpr) rfl rfl rfl rfl ?_; clear hst; intro w hst); (try simp only [pz, pn, sz, sc, W2, W3]); refine re ?_
    refine r0 10 ?_; simp only [pz, pn, sz, sc, W2, W3]
    refine r0 11 ?_; simp only [pz, pn, sz, sc, W2, W3]
    refine r0 12 ?_ (hy := yB (tb46_021 _ _ _)); simp only [pz, pn, sz, sc, W2, W3]
    refine r1 14 ?_; (refine kt hst ta46 rfl rfl ?_; clear hst; intro w hst); (try simp only [pz, pn, sz, sc, W2, W3]); refine re ?_
    refine rd_ ?_
    rotate_right 3
    rotate_left 4
    (refine ka 6 hst tz46 rfl rfl ?_; clear hst; intro b6 w hb6 hst); (try simp only [pz, pn, sz, sc, W2, W3]); refine re ?_
    refine r1 2 ?_; (refine kf gf35 hst (hng) rfl rfl rfl rfl ?_; clear hst; intro w hst); (try simp only [pz, pn, sz, sc, W2, W3]); refine re ?_
    refine r1 5 ?_; (refine kf gf36 hst (hfr) rfl rfl rfl rfl ?_; clear hst; intro w hst); (try simp only [pz, pn, sz, sc, W2, W3]); refine re ?_
    refine r1 7 ?_; (refine kf gf37 hst (hem) rfl rfl rfl rfl ?_; clear hst; intro w hst); (try simp only [pz, pn, sz, sc, W2, W3]); refine re ?_
    refine r1 9 ?_; (refine kf gf25 hst (hpr) rfl rfl rfl rfl ?_; clear hst; intro w hst); (try simp only [pz, pn, sz, sc, W2, W3]); refine re ?_
    refine r0 10 ?_; simp only [pz, pn, sz, sc, W2, W3]
    refine r0 11 ?_; simp only [pz, pn, sz, sc, W2, W3]
    refine r0 12 ?_ (hy := yB (tb46_021 _ _ _)); simp only [pz, pn, sz, sc, W2, W3]
    refine r1 14 ?_; (refine kt hst ta46 rfl rfl ?_; clear hst; intro w hst); (try simp only [pz, pn, sz, sc, W2, W3]); refine re ?_
    refine rd_ ?_
    rotate_right 4
    all_goals
      go_wp2_with ((first | (refine kt hst ta46 rfl rfl ?_; clear hst; intro w hst) | (refine kl hst ta46 rfl ?_)); try simp only [pz, pn, sz, sc])
      refine bp_c rfl rfl (la hst ta46) ⟨?_, hst.keeps⟩
      rfl
  · have e1 : wSig f m = wFrac f m + 2 ^ (fP f - 1) := by unfold wSig; rw [if_neg h0]
    obtain ⟨d, hd⟩ : ∃ d, wField f m = d + 1 := ⟨wField f m - 1, by omega⟩
    have e2 : wExp f m = 1 - (fE f : Int) - fP f + 1 + ((d : Int) + 1) - 1 := by unfold wExp; rw [hd]; omega
    rw [e1, e2]
    rw [hd, show ((d + 1 : Nat) : Int) = (d : Int) + 1 by omega] at hfd
    have hd0 : (0 : Int) < (d : Int) + 1 := by omega
    have hdl : d < 32768 := by omega
    obtain ⟨i, hi⟩ : ∃ i, i = fP f - 1 := ⟨_, rfl⟩
    rw [← hi] at hfl ⊢
    obtain ⟨sb1, sb2⟩ := set_bit (wFrac f m) i hfl (by omega)
    obtain ⟨qd, hq⟩ : ∃ q, q = i / 64 := ⟨_, rfl⟩
    obtain ⟨rr, hr⟩ : ∃ r, r = i % 64 := ⟨_, rfl⟩
    rw [← hq, ← hr] at sb1 sb2
    have E0 : (fP f : Int) - 1 = (i : Int) := by omega
    have Q1 : (i : Int) / 64 = (qd : Int) := by omega
    have Q2 : (i : Int) % 64 = (rr : Int) := by omega
    have Q5 : (i : Int).tdiv 64 = (qd : Int) := by rw [Int.tdiv_eq_ediv_of_nonneg (by omega)]; exact Q1
    have Q6 : (i : Int).tmod 64 = (rr : Int) := by rw [Int.tmod_eq_emod_of_nonneg (by omega)]; exact Q2
    have q0 : (0 : Int) ≤ (qd : Int) := by omega
    have q8 : (qd : Int) < 8 := by omega
    have q8' : qd < 8 := by omega
    have rr0 : (0 : Int) ≤ (rr : Int) := by omega
    have rr6 : (rr : Int) < 64 := by omega
    have P1 : IntKind.u64.wrap ((2 : Int) ^ rr) = ((2 ^ rr : Nat) : Int) := by
      have a : 2 ^ rr ≤ 2 ^ 63 := Nat.pow_le_pow_right (by omega) (by omega)
      rw [show (2 : Int) ^ rr = ((2 ^ rr : Nat) : Int) by simp, u64_wrap, Nat.mod_eq_of_lt (by rw [B_val]; omega)]
    have P2 : IntKind.u64.wrap ((lb (wFrac f m) qd : Int) + ((2 ^ rr : Nat) : Int)) = (lb (wFrac f m) qd : Int) + ((2 ^ rr : Nat) : Int) := by rw [← Int.natCast_add, u64_wrap, Nat.mod_eq_of_lt sb2]
    have P3 : IntKind.i64.wrap (qd : Int) = (qd : Int) := by rw [IntKind.wrap_i64]; omega
    have P4 : IntKind.i64.wrap (rr : Int) = (rr : Int) := by rw [IntKind.wrap_i64]; omega
    have hP5 := Lib.hid (show IntKind.u64.wrap ((lb (wFrac f m) qd : Int) + (2 : Int) ^ rr) = (lb (wFrac f m) qd : Int) + ((2 ^ rr : Nat) : Int) by rw [show (2 : Int) ^ rr = ((2 ^ rr : Nat) : Int) by simp]; exact P2)
    have hgq : ∀ a b : Value, (#[a, b] ++ wc 8 (wFrac f m))[2 + qd]? = some (.int .u64 (lb (wFrac f m) qd : Nat)) := fun a b => by
      rw [Array.getElem?_append_right (by simp)]
      simp only [List.size_toArray, List.length_cons, List.length_nil, Nat.zero_add, Nat.reduceAdd, Nat.add_sub_cancel_left]
      exact wc_get 8 _ _ q8'
    have hsq := Lib.hid (show ∀ a b v : Value, (#[a, b] ++ wc 8 (wFrac f m)).setIfInBounds (2 + qd) v = #[a, b] ++ (wc 8 (wFrac f m)).setIfInBounds qd v from fun a b v => by
      rw [Array.setIfInBounds_append_right (by simp)]
      simp)
    have hs1 := Lib.hid (show ∀ (a b v : Value) (n : Nat), (#[a, b] ++ wc 8 n).setIfInBounds (0 + 1) v = #[a, v] ++ wc 8 n from fun a b v n => by rw [Array.setIfInBounds_append_left (by simp)]; rfl)
    have hset := Lib.hid sb1
    clear e1 e2 h0 hl hfl hm hf h1 h4 hd hq hr hi sb1 sb2
    unfold nbC
    generalize 2 ^ i = pw at *
    generalize wFrac f m = fr at *
    generalize wNeg f m = ng at *
    generalize fP f = p at *
    generalize fE f = E at *
    obtain ⟨e0, he0⟩ : ∃ e0 : Int, 1 - (E : Int) - p + 1 = e0 := ⟨_, rfl⟩
    have he1 : -100000 ≤ e0 := by omega
    have he2 : e0 ≤ 100000 := by omega
    rw [he0] at W3 ⊢
    have hg1 := hgq (.bool ng) (.int .i64 e0)
    have y2 : OneC (#[Value.bool ng, .int .i64 e0] ++ wc 8 fr) := nbC_one ng _ fr
    have y3 : (#[Value.bool ng, .int .i64 e0] ++ wc 8 fr).size = 10 := by simp
    have y4 : (#[Value.bool ng, .int .i64 (e0 + ((d : Int) + 1) - 1)] ++ wc 8 (fr + pw)).size = 10 := by simp
    have y5 : OneC (#[Value.bool ng, .int .i64 (e0 + ((d : Int) + 1) - 1)] ++ wc 8 (fr + pw)) := nbC_one ng _ _
    go_enter Tryz.func14, Tryz.ntmps14
    go_wp2_with ((first | (refine kf gf34 hst (hfd) rfl rfl rfl rfl ?_; clear hst; intro w hst) | (refine kb 3 hst rfl rfl ?_; clear hst; intro b3 w hb3 hst) | (refine ka 4 hst tz46 rfl rfl ?_; clear hst; intro b4 w hb4 hst) | (refine kl hst ta24 rfl ?_)); try simp only [pz, pn, sz, sc])
    refine wp_region_T 14  hst (by kernel_rfl) ?_; clear hst; intro w hst; (try simp only [List.length_cons, List.length_nil, Nat.reduceAdd, Array.replicate_succ, Array.replicate_zero, List.push_toArray, List.nil_append, List.cons_append])
    refine r0 0 ?_; simp only [pz, pn, sz, sc, W2, he0, W3]
    refine r0 3 ?_; simp only [pz, pn, sz, sc, W2, he0, W3]
    refine r0 6 ?_; simp only [pz, pn, sz, sc, W2, he0, W3]
    refine r0 8 ?_; simp only [pz, pn, sz, sc, W2, he0, W3]
    refine rl 1 rfl ?_ (by first | exact ylA ta24 | exact ylM ta24); simp only [pz, pn, sz, sc, W2, he0, W3]
    refine rl 4 rfl ?_ (by first | exact ylA ta24 | exact ylM ta24); simp only [pz, pn, sz, sc, W2, he0, W3]
    refine r2 2 13 ?_ ?_
    (refine kf gf35 hst (hng) rfl rfl rfl rfl ?_; clear hst; intro w hst); (try simp only [pz, pn, sz, sc, W2, he0, W3]); refine re ?_
    refine r2 5 13 ?_ ?_
    (refine kf gf36 hst (hfr) rfl rfl rfl rfl ?_; clear hst; intro w hst); (try simp only [pz, pn, sz, sc, W2, he0, W3]); refine re ?_
    refine r2 7 13 ?_ ?_
    (refine kf gf37 hst (hem) rfl rfl rfl rfl ?_; clear hst; intro w hst); (try simp only [pz, pn, sz, sc, W2, he0, W3]); refine re ?_
    refine r2 9 13 ?_ ?_
    (refine kf gf25 hst (hpr) rfl rfl rfl rfl ?_; clear hst; intro w hst); (try simp only [pz, pn, sz, sc, W2, he0, W3]); refine re ?_
    refine r0 10 ?_; simp only [pz, pn, sz, sc, W2, he0, W3]
    refine r0 11 ?_; simp only [pz, pn, sz, sc, W2, he0, W3]
    refine r0 12 ?_ (hy := yB (tb46_021 _ _ _)); simp only [pz, pn, sz, sc, W2, he0, W3]
    refine r1 13 ?_; (refine ka 6 hst tz46 rfl rfl ?_; clear hst; intro b6 w hb6 hst); (try simp only [pz, pn, sz, sc, W2, he0, W3]); refine re ?_
    refine r1 14 ?_; (refine kt hst ta46 rfl rfl ?_; clear hst; intro w hst); (try simp only [pz, pn, sz, sc, W2, he0, W3]); refine re ?_
    refine rd_ ?_
    rotate_left 1
    (refine ka 6 hst tz46 rfl rfl ?_; clear hst; intro b6 w hb6 hst); (try simp only [pz, pn, sz, sc, W2, he0, W3]); refine re ?_
    refine r1 9 ?_; (refine kf gf25 hst (hpr) rfl rfl rfl rfl ?_; clear hst; intro w hst); (try simp only [pz, pn, sz, sc, W2, he0, W3]); refine re ?_
    refine r0 10 ?_; simp only [pz, pn, sz, sc, W2, he0, W3]
    refine r0 11 ?_; simp only [pz, pn, sz, sc, W2, he0, W3]
    refine r0 12 ?_ (hy := yB (tb46_021 _ _ _)); simp only [pz, pn, sz, sc, W2, he0, W3]
    refine r1 14 ?_; (refine kt hst ta46 rfl rfl ?_; clear hst; intro w hst); (try simp only [pz, pn, sz, sc, W2, he0, W3]); refine re ?_
    refine rd_ ?_
    rotate_right 1
    rotate_left 2
    (refine ka 6 hst tz46 rfl rfl ?_; clear hst; intro b6 w hb6 hst); (try simp only [pz, pn, sz, sc, W2, he0, W3]); refine re ?_
    refine r1 7 ?_; (refine kf gf37 hst (hem) rfl rfl rfl rfl ?_; clear hst; intro w hst); (try simp only [pz, pn, sz, sc, W2, he0, W3]); refine re ?_
    refine r1 9 ?_; (refine kf gf25 hst (hpr) rfl rfl rfl rfl ?_; clear hst; intro w hst); (try simp only [pz, pn, sz, sc, W2, he0, W3]); refine re ?_
    refine r0 10 ?_; simp only [pz, pn, sz, sc, W2, he0, W3]
    refine r0 11 ?_; simp only [pz, pn, sz, sc, W2, he0, W3]
    refine r0 12 ?_ (hy := yB (tb46_021 _ _ _)); simp only [pz, pn, sz, sc, W2, he0, W3]
    refine r1 14 ?_; (refine kt hst ta46 rfl rfl ?_; clear hst; intro w hst); (try simp only [pz, pn, sz, sc, W2, he0, W3]); refine re ?_
    refine rd_ ?_
    rotate_right 2
    rotate_left 3
    (refine ka 6 hst tz46 rfl rfl ?_; clear hst; intro b6 w hb6 hst); (try simp only [pz, pn, sz, sc, W2, he0, W3]); refine re ?_
    refine r1 5 ?_; (refine kf gf36 hst (hfr) rfl rfl rfl rfl ?_; clear hst; intro w hst); (try simp only [pz, pn, sz, sc, W2, he0, W3]); refine re ?_
    refine r1 7 ?_; (refine kf gf37 hst (hem) rfl rfl rfl rfl ?_; clear hst; intro w hst); (try simp only [pz, pn, sz, sc, W2, he0, W3]); refine re ?_
    refine r1 9 ?_; (refine kf gf25 hst (hpr) rfl rfl rfl rfl ?_; clear hst; intro w hst); (try simp only [pz, pn, sz, sc, W2, he0, W3]); refine re ?_
    refine r0 10 ?_; simp only [pz, pn, sz, sc, W2, he0, W3]
    refine r0 11 ?_; simp only [pz, pn, sz, sc, W2, he0, W3]
    refine r0 12 ?_ (hy := yB (tb46_021 _ _ _)); simp only [pz, pn, sz, sc, W2, he0, W3]
    refine r1 14 ?_; (refine kt hst ta46 rfl rfl ?_; clear hst; intro w hst); (try simp only [pz, pn, sz, sc, W2, he0, W3]); refine re ?_
    refine rd_ ?_
    rotate_right 3
    rotate_left 4
    (refine ka 6 hst tz46 rfl rfl ?_; clear hst; intro b6 w hb6 hst); (try simp only [pz, pn, sz, sc, W2, he0, W3]); refine re ?_
    refine r1 2 ?_; (refine kf gf35 hst (hng) rfl rfl rfl rfl ?_; clear hst; intro w hst); (try simp only [pz, pn, sz, sc, W2, he0, W3]); refine re ?_
    refine r1 5 ?_; (refine kf gf36 hst (hfr) rfl rfl rfl rfl ?_; clear hst; intro w hst); (try simp only [pz, pn, sz, sc, W2, he0, W3]); refine re ?_
    refine r1 7 ?_; (refine kf gf37 hst (hem) rfl rfl rfl rfl ?_; clear hst; intro w hst); (try simp only [pz, pn, sz, sc, W2, he0, W3]); refine re ?_
    refine r1 9 ?_; (refine kf gf25 hst (hpr) rfl rfl rfl rfl ?_; clear hst; intro w hst); (try simp only [pz, pn, sz, sc, W2, he0, W3]); refine re ?_
    refine r0 10 ?_; simp only [pz, pn, sz, sc, W2, he0, W3]
    refine r0 11 ?_; simp only [pz, pn, sz, sc, W2, he0, W3]
    refine r0 12 ?_ (hy := yB (tb46_021 _ _ _)); simp only [pz, pn, sz, sc, W2, he0, W3]
    refine r1 14 ?_; (refine kt hst ta46 rfl rfl ?_; clear hst; intro w hst); (try simp only [pz, pn, sz, sc, W2, he0, W3]); refine re ?_
    refine rd_ ?_
    rotate_right 4
    all_goals
      go_wp2_with ((first | (refine kf gf25 hst (hpr) rfl rfl rfl rfl ?_; clear hst; intro w hst)); try simp only [pz, pn, sz, sc])
      refine wp_region_T 13  hst (by kernel_rfl) ?_; clear hst; intro w hst; (try simp only [List.length_cons, List.length_nil, Nat.reduceAdd, Array.replicate_succ, Array.replicate_zero, List.push_toArray, List.nil_append, List.cons_append])
      refine r0 0 ?_; simp only [pz, pn, sz, sc, Q1, Q2, Q5, Q6, P1, P2, P3, P4]
      refine r0 1 ?_; simp only [pz, pn, sz, sc, Q1, Q2, Q5, Q6, P1, P2, P3, P4]
      refine r0 2 ?_; simp only [pz, pn, sz, sc, Q1, Q2, Q5, Q6, P1, P2, P3, P4]
      refine r0 3 ?_; simp only [pz, pn, sz, sc, Q1, Q2, Q5, Q6, P1, P2, P3, P4]
      refine r0 4 ?_; simp only [pz, pn, sz, sc, Q1, Q2, Q5, Q6, P1, P2, P3, P4]
      refine r0 5 ?_; simp only [pz, pn, sz, sc, Q1, Q2, Q5, Q6, P1, P2, P3, P4]
      refine r0 7 ?_; simp only [pz, pn, sz, sc, Q1, Q2, Q5, Q6, P1, P2, P3, P4]
      refine r0 8 ?_; simp only [pz, pn, sz, sc, Q1, Q2, Q5, Q6, P1, P2, P3, P4]
      refine r0 9 ?_; simp only [pz, pn, sz, sc, Q1, Q2, Q5, Q6, P1, P2, P3, P4]
      refine r0 11 ?_; simp only [pz, pn, sz, sc, Q1, Q2, Q5, Q6, P1, P2, P3, P4]
      refine rl 6 rfl ?_ (ylC tc22); simp only [pz, pn, sz, sc, Q1, Q2, Q5, Q6, P1, P2, P3, P4]
      refine r0 10 ?_; simp only [pz, pn, sz, sc, Q1, Q2, Q5, Q6, P1, P2, P3, P4]
      refine r0 12 ?_; simp only [pz, pn, sz, sc, Q1, Q2, Q5, Q6, P1, P2, P3, P4]
      refine r1 13 ?_; (refine ks hst tc22 rfl rfl ?_; clear hst; intro w hst; (try rw [hsq.out, hP5.out, hset.out] at hst)); (try simp only [pz, pn, sz, sc, Q1, Q2, Q5, Q6, P1, P2, P3, P4]); refine re ?_
      refine rd_ ?_
      all_goals
        go_wp2_with ((first | (refine kt hst ta46 rfl rfl ?_; clear hst; intro w hst; (try rw [hs1.out] at hst)) | (refine kc hst tc3 rfl ?_) | (refine ks hst tc3 rfl rfl ?_; clear hst; intro w hst; (try rw [hs1.out] at hst)) | (refine kl hst ta46 rfl ?_)); try simp only [pz, pn, sz, sc])
        refine bp_c rfl rfl (la hst ta46) ⟨?_, hst.keeps⟩
        rfl

end Go.Proofs.YtefpoconpeggpaaGreatDoor.Rd
