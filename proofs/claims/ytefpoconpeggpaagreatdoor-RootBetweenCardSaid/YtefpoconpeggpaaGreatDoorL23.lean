/- What pack.Round answers where it neither overflows nor underflows, of more digits than the precision. -/
import Derived.Test.YtefpoconpeggpaaGreatDoorL03
import Derived.Laws.IdiomStrings
import Derived.Test.YtefpoconpeggpaaGreatDoorL08
import Derived.Laws.DeepStrings4
import Derived.Laws.Concat
import Derived.Test.YtefpoconpeggpaaGreatDoorL07
import Derived.Test.YtefpoconpeggpaaGreatDoorL20
import Derived.Test.YtefpoconpeggpaaGreatDoorL21
import Derived.Test.YtefpoconpeggpaaGreatDoorL22
namespace Go.Proofs.YtefpoconpeggpaaGreatDoor.Rd
open Go Go.RowKit
set_option linter.unusedVariables false
set_option linter.unusedSimpArgs false
set_option maxRecDepth 100000

end Go.Proofs.YtefpoconpeggpaaGreatDoor.Rd

namespace Go.Proofs.YtefpoconpeggpaaGreatDoor.Rd
open Go Go.RowKit
set_option linter.unusedVariables false
set_option linter.unusedSimpArgs false
set_option maxRecDepth 100000

end Go.Proofs.YtefpoconpeggpaaGreatDoor.Rd

namespace Go.Proofs.YtefpoconpeggpaaGreatDoor.Rd
open Go Go.RowKit
set_option linter.unusedVariables false
set_option linter.unusedSimpArgs false
set_option maxRecDepth 100000

section
variable {P : Program} {ops : Array Oper} {rest : List Oper} {Q : Exit → Act → World → Prop} {a : Act} {w w0 : World} {S : List Nat} {L pre Lg : List (Nat × Obj)}

end

end Go.Proofs.YtefpoconpeggpaaGreatDoor.Rd

namespace Go.Proofs.YtefpoconpeggpaaGreatDoor.Rd
open Go Go.RowKit
set_option linter.unusedVariables false
set_option linter.unusedSimpArgs false
set_option maxRecDepth 100000

section
variable {P : Program} {ops : Array Oper} {rest : List Oper} {Q : Exit → Act → World → Prop} {a : Act} {w : World}
end
end Go.Proofs.YtefpoconpeggpaaGreatDoor.Rd

namespace Go.Proofs.YtefpoconpeggpaaGreatDoor.Rd
open Go Go.RowKit
set_option linter.unusedVariables false
set_option linter.unusedSimpArgs false
set_option maxRecDepth 100000

end Go.Proofs.YtefpoconpeggpaaGreatDoor.Rd

namespace Go.Proofs.YtefpoconpeggpaaGreatDoor.Rd
open Go Go.RowKit
set_option linter.unusedVariables false
set_option linter.unusedSimpArgs false
set_option maxRecDepth 100000

end Go.Proofs.YtefpoconpeggpaaGreatDoor.Rd

namespace Go.Proofs.YtefpoconpeggpaaGreatDoor.Rd
open Go Go.RowKit
set_option linter.unusedVariables false
set_option linter.unusedSimpArgs false
set_option maxRecDepth 100000

end Go.Proofs.YtefpoconpeggpaaGreatDoor.Rd

namespace Go.Proofs.YtefpoconpeggpaaGreatDoor.Rd
open Go Go.RowKit
set_option linter.unusedVariables false
set_option linter.unusedSimpArgs false
set_option maxRecDepth 100000

theorem bl_small_dl (u k : Nat) (h : u ≤ 2 ^ k) (hk : k ≤ 1000) : dl u ≤ 300 ∧ bl u ≤ 1001 := by
  have h1 : u < 2 ^ (k + 1) := by rw [Nat.pow_succ]; have : 0 < 2 ^ k := Nat.pow_pos (by omega); omega
  have := dl_2pow u (k + 1) h1
  have := bl_le.2 h1
  omega
end Go.Proofs.YtefpoconpeggpaaGreatDoor.Rd

namespace Go.Proofs.YtefpoconpeggpaaGreatDoor.Rd
open Go Go.RowKit
set_option linter.unusedVariables false
set_option linter.unusedSimpArgs false
set_option maxRecDepth 100000

theorem M_bl {n : Nat} (h : bl n ≤ 511) : n < M := by
  have h1 := (bl_spec n).1
  have h2 : 2 ^ bl n < M := by
    have key : ∀ t, M = 2 ^ t → bl n < t → 2 ^ bl n < M := fun t e h => by rw [e]; exact Nat.pow_lt_pow_right (by omega) h
    exact key (64 * 8) (by rw [M_eq, show B = 2 ^ 64 from rfl, ← Nat.pow_mul]) (by omega)
  omega

set_option maxHeartbeats 1000000 in
theorem pack_Right (p : Nat) (hp1 : 1 ≤ p) (hp2 : p ≤ 500) (ng : Bool) (e : Int) (n : Nat) (he1 : -1048576 ≤ e) (he2 : e ≤ 1048576) (hn : bl n ≤ 511) (more : Bool) (hm : more = true → p < bl n) : Gives Tryz.prog 93 #[.int .i64 p, .agg (nbC ng e n), .bool more] (.bool true) := by
  intro w0
  have hst := St.start [] w0
  have hur := unpack_Right ng e n he1 he2
  have hlen := wide_Len n (M_bl hn)
  have y1 := nbC_size ng e n
  have y2 := nbC_one ng e n
  have hpt : Part (nbC ng e n) (wc 8 n) (nbC ng e n) (wc 8 n) 2 := part1 2 _ _ _ rfl rfl
  generalize nbC ng e n = cs at *
  generalize bl n = k at *
  have p1 : (1 : Int) ≤ (p : Int) := by omega
  have p5 : (p : Int) ≤ 500 := by omega
  have k5 : (k : Int) ≤ 511 := by omega
  cases more
  · clear hm
    go_enter Tryz.func93, Tryz.ntmps93
    go_wp2_with ((first | (refine klm hst ta44 rfl ?_ (hc := hpt)) | (refine kf gf47 hst (hlen) rfl rfl rfl rfl ?_; clear hst; intro w hst) | (refine kf gf85 hst (hur) rfl rfl rfl rfl ?_; clear hst; intro w hst) | (refine wl_guard (by rfl) ?_) | (refine kb 4 hst rfl rfl ?_; clear hst; intro b4 w hb4 hst) | (refine kl hst ta46 rfl ?_)); try simp only [pz, pn, sz, sc])
    refine bp_t rfl rfl (by rfl) ⟨?_, hst.keeps⟩
    rfl
  · have hlt : (p : Int) < (k : Int) := by have := hm rfl; omega
    have hlt' : p < k := hm rfl
    clear hm
    go_enter Tryz.func93, Tryz.ntmps93
    go_wp2_with ((first | (refine klm hst ta44 rfl ?_ (hc := hpt)) | (refine kf gf47 hst (hlen) rfl rfl rfl rfl ?_; clear hst; intro w hst) | (refine kf gf85 hst (hur) rfl rfl rfl rfl ?_; clear hst; intro w hst) | (refine wl_guard (by rfl) ?_) | (refine kb 4 hst rfl rfl ?_; clear hst; intro b4 w hb4 hst) | (refine kl hst ta46 rfl ?_)); try simp only [pz, pn, sz, sc])
    refine bp_t rfl rfl (by rfl) ⟨?_, hst.keeps⟩
    rfl

set_option maxHeartbeats 1000000 in
theorem pack_at_cut (pl : Int) (m : Nat) (m1 : 1 ≤ m) (m5 : m ≤ 5) (ng : Bool) (e : Int) (n b : Nat) (hn : n < M) (hb1 : 1 ≤ b) (hb2 : b < 512) (hpl : pl - e = (b : Int)) (he1 : -1048576 ≤ e) (he2 : e ≤ 1048576) (more : Bool) :
    Gives Tryz.prog 97 #[.int .i64 pl, .int .i64 m, .agg (nbC ng e n), .bool more] (.tuple #[W (cutN n b more m ng), .bool (decide (restN n b more ≠ 0))]) := by
  intro w0
  have hst := St.start [] w0
  have hcut := mode_Cut n b hn hb1 hb2 more m m1 m5 ng
  have y1 := nbC_size ng e n
  have y2 := nbC_one ng e n
  have g0 := nbC_0 ng e n
  have g1 := nbC_1 ng e n
  have hpt : Part (nbC ng e n) (wc 8 n) (nbC ng e n) (wc 8 n) 2 := part1 2 _ _ _ rfl rfl
  have b0 : ¬ (b : Int) ≤ 0 := by omega
  have hl1 : pl ≤ 2000000 := by omega
  have hl2 : -2000000 ≤ pl := by omega
  have hbl : (b : Int) < 512 := by omega
  generalize nbC ng e n = cs at *
  generalize cutN n b more m ng = x at *
  generalize decide (restN n b more ≠ 0) = ix at *
  clear hn hb1 hb2 m1 m5
  go_enter Tryz.func97, Tryz.ntmps97
  go_wp2_with ((first | (refine klm hst ta44 rfl ?_ (hc := hpt)) | (refine kf gf121 hst (hcut) rfl rfl rfl rfl ?_; clear hst; intro w hst) | (refine kb 6 hst rfl rfl ?_; clear hst; intro b6 w hb6 hst) | (refine ka 8 hst tz44 rfl rfl ?_; clear hst; intro b8 w hb8 hst) | (refine kc hst tc3 rfl ?_) | (refine kt hst ta44 rfl rfl ?_; clear hst; intro w hst) | (refine kc hst tc4 rfl ?_)); try simp only [pz, pn, sz, sc])
  refine bp_ct rfl rfl (la hst ta44) (by rfl) ⟨?_, hst.keeps⟩
  rfl

set_option maxHeartbeats 1000000 in
theorem pack_digits_cut (p : Nat) (hp1 : 1 ≤ p) (hp2 : p ≤ 500) (m : Nat) (m1 : 1 ≤ m) (m5 : m ≤ 5) (ng : Bool) (e : Int) (n : Nat) (he1 : -1048576 ≤ e) (he2 : e ≤ 1048576) (hn : bl n ≤ 511) (hb : p < bl n) (more : Bool) :
    Gives Tryz.prog 95 #[.int .i64 p, .int .i64 m, .agg (nbC ng e n), .bool more] (.tuple #[W (cutN n (bl n - p) more m ng), .int .i64 (e + (bl n - p : Nat)), .bool (decide (restN n (bl n - p) more ≠ 0))]) := by
  intro w0
  have hst := St.start [] w0
  have hnM := M_bl hn
  have hlen := wide_Len n hnM
  obtain ⟨pl, hpl⟩ : ∃ pl : Int, pl = e + (bl n - p : Nat) := ⟨_, rfl⟩
  have hat := pack_at_cut pl m m1 m5 ng e n (bl n - p) hnM (by omega) (by omega) (by omega) he1 he2 more
  rw [← hpl]
  have W1 : IntKind.i64.wrap (e + (bl n : Int)) = e + (bl n : Int) := by rw [IntKind.wrap_i64]; omega
  have W2 : IntKind.i64.wrap (e + (bl n : Int) - 1) = e + (bl n : Int) - 1 := by rw [IntKind.wrap_i64]; omega
  have E1 : e + (bl n : Int) - 1 - (p : Int) + 1 = pl := by omega
  have E2 : ¬ pl ≤ e := by omega
  have hl1 : pl ≤ 2000000 := by omega
  have hl2 : -2000000 ≤ pl := by omega
  have y1 : (#[Value.bool ng, .int .i64 e] ++ wc 8 n).size = 10 := by simp
  have y2 : OneC (#[Value.bool ng, .int .i64 e] ++ wc 8 n) := nbC_one ng e n
  have hk1 : bl n ≤ 511 := hn
  clear hnM hn
  unfold nbC at hat ⊢
  generalize cutN n (bl n - p) more m ng = x at *
  generalize decide (restN n (bl n - p) more ≠ 0) = ix at *
  clear hpl hb
  generalize bl n = k at *
  go_enter Tryz.func95, Tryz.ntmps95
  go_wp2_with ((first | (refine kb 6 hst rfl rfl ?_; clear hst; intro b6 w hb6 hst) | (refine ka 8 hst tz44 rfl rfl ?_; clear hst; intro b8 w hb8 hst)); try simp only [pz, pn, sz, sc])
  refine wp_region_T 8  hst (by kernel_rfl) ?_; clear hst; intro w hst; (try simp only [List.length_cons, List.length_nil, Nat.reduceAdd, Array.replicate_succ, Array.replicate_zero, List.push_toArray, List.nil_append, List.cons_append])
  refine r0 0 ?_; simp only [pz, pn, sz, sc, W1, W2]
  refine r0 2 ?_; simp only [pz, pn, sz, sc, W1, W2]
  refine rl 1 rfl ?_ (ylC tc3); simp only [pz, pn, sz, sc, W1, W2]
  refine rl 3 rfl ?_ (by first | exact ylA ta44 | exact ylM ta44); simp only [pz, pn, sz, sc, W1, W2]
  refine r1 4 ?_; (refine kf gf47 hst (hlen) rfl rfl rfl rfl ?_; clear hst; intro w hst); (try simp only [pz, pn, sz, sc, W1, W2]); refine re ?_
  refine r0 5 ?_; simp only [pz, pn, sz, sc, W1, W2]
  refine r0 6 ?_; simp only [pz, pn, sz, sc, W1, W2]
  refine r0 7 ?_; simp only [pz, pn, sz, sc, W1, W2]
  refine rd_ ?_
  all_goals
    go_wp2_with ((first | (refine kf gf97 hst (hat) rfl rfl rfl rfl ?_; clear hst; intro w hst) | (refine kc hst tc3 rfl ?_) | (refine kl hst ta44 rfl ?_) | (refine kt hst ta44 rfl rfl ?_; clear hst; intro w hst) | (refine kl hst ta46 rfl ?_) | (refine ka 13 hst tz44 rfl rfl ?_; clear hst; intro b13 w hb13 hst)); try simp only [pz, pn, sz, sc])
    refine bp_ctt rfl rfl (la hst ta44) (by rfl) (by rfl) ⟨?_, hst.keeps⟩
    rfl

end Go.Proofs.YtefpoconpeggpaaGreatDoor.Rd

namespace Go.Proofs.YtefpoconpeggpaaGreatDoor.Rd
open Go Go.RowKit
set_option linter.unusedVariables false
set_option linter.unusedSimpArgs false
set_option maxRecDepth 100000

theorem norm_sig (p u : Nat) (h1 : 2 ^ (p - 1) ≤ u) (h2 : u ≤ 2 ^ p) (hp : 1 ≤ p) (hp2 : p ≤ 500) : u * 2 ^ clampN ((p : Int) - (bl u : Int)) % M / 2 ^ clampN (-((p : Int) - (bl u : Int))) = u * 2 ^ p / 2 ^ bl u ∧ u * 2 ^ p / 2 ^ bl u < 2 ^ p ∧ p ≤ bl u ∧ bl u ≤ p + 1 := by
  have hb1 : p ≤ bl u := by
    rcases Nat.lt_or_ge (bl u) p with h | h
    · have := bl_le.1 (show bl u ≤ p - 1 by omega)
      omega
    · exact h
  have hb2 : bl u ≤ p + 1 := by
    apply bl_le.2
    have : 2 ^ p < 2 ^ (p + 1) := Nat.pow_lt_pow_right (by omega) (by omega)
    omega
  have huM : u < M := Nat.lt_of_le_of_lt h2 (small_M2 p hp2)
  have hlt := (bl_spec u).1
  refine ⟨?_, ?_, hb1, hb2⟩
  · rcases (show bl u = p ∨ bl u = p + 1 by omega) with h | h
    · rw [h]
      have e1 : clampN ((p : Int) - (p : Int)) = 0 := by unfold clampN; rw [if_neg (by omega), if_neg (by omega)]; omega
      have e2 : clampN (-((p : Int) - (p : Int))) = 0 := by unfold clampN; rw [if_neg (by omega), if_neg (by omega)]; omega
      rw [e1, e2, Nat.pow_zero, Nat.mul_one, Nat.div_one, Nat.mod_eq_of_lt huM, Nat.mul_div_cancel _ (Nat.pow_pos (by omega))]
    · rw [h]
      have e1 : clampN ((p : Int) - ((p + 1 : Nat) : Int)) = 0 := by unfold clampN; rw [if_pos (by omega)]
      have e2 : clampN (-((p : Int) - ((p + 1 : Nat) : Int))) = 1 := by unfold clampN; rw [if_neg (by omega), if_neg (by omega)]; omega
      rw [e1, e2, Nat.pow_zero, Nat.mul_one, Nat.pow_one, Nat.mod_eq_of_lt huM, Nat.pow_succ, Nat.mul_comm (2 ^ p) 2]
      exact (Nat.mul_div_mul_right _ _ (Nat.pow_pos (by omega))).symm
  · rw [Nat.div_lt_iff_lt_mul (Nat.pow_pos (by omega)), Nat.mul_comm]
    exact Nat.mul_lt_mul_of_pos_left hlt (Nat.pow_pos (by omega))

set_option maxHeartbeats 8000000 in
theorem pack_Round_in (f : Nat) (f1 : 1 ≤ f) (f4 : f ≤ 4) (m : Nat) (m1 : 1 ≤ m) (m5 : m ≤ 5) (ng : Bool) (e : Int) (n : Nat) (he1 : -1000000 ≤ e) (he2 : e ≤ 1000000) (hn : bl n ≤ 511) (hb : fP f < bl n) (more : Bool) (tp : Int)
    (htp : tp = e + (bl n - fP f : Nat) + bl (cutN n (bl n - fP f) more m ng) - 1) (ht1 : 1 - (fE f : Int) ≤ tp) (ht2 : tp ≤ (fE f : Int)) (w0 : World) (hF : FmtIn w0) :
    GivesAt Tryz.prog 63 #[.int .i64 f, .int .i64 m, .agg (nbC ng e n), .bool more]
      (.tuple #[Wd (encW f ng (tp - (1 - (fE f : Int))).toNat (cutN n (bl n - fP f) more m ng * 2 ^ fP f / 2 ^ bl (cutN n (bl n - fP f) more m ng))), .int .i64 (if decide (restN n (bl n - fP f) more ≠ 0) then 16 else 0), .int .i64 0]) w0 := by
  have hst := St.start [] w0
  have hk := Lib.hid (fun w (k : Keeps [] w0 w) => hF.keep k (by simp))
  have hof := fun w h => format_Of f f1 f4 w h
  have hP := fP_in f
  have hE := fE_in f
  have his := mode_Is_yes m (by omega) (by omega)
  have hri := pack_Right (fP f) (by omega) (by omega) ng e n (by omega) (by omega) hn more (fun _ => hb)
  have hdg := pack_digits_cut (fP f) (by omega) (by omega) m m1 m5 ng e n (by omega) (by omega) hn hb more
  obtain ⟨c1, c2⟩ := cutN_range n (fP f) more m ng (by omega) hb
  have hfl := pack_flagged (decide (restN n (bl n - fP f) more ≠ 0)) 16
  obtain ⟨pl, hpl⟩ : ∃ pl : Int, pl = e + (bl n - fP f : Nat) := ⟨_, rfl⟩
  rw [← hpl] at hdg htp
  obtain ⟨u, hu⟩ : ∃ u, u = cutN n (bl n - fP f) more m ng := ⟨_, rfl⟩
  rw [← hu] at hdg htp c1 c2 ⊢
  obtain ⟨n1, n2, n3, n4⟩ := norm_sig (fP f) u c1 c2 (by omega) (by omega)
  have huM : u < M := Nat.lt_of_le_of_lt c2 (small_M2 _ (by omega))
  have hlen := wide_Len u huM
  have hshl := wide_Shl u ((fP f : Int) - (bl u : Int)) huM
  have hshr := wide_Shr (u * 2 ^ clampN ((fP f : Int) - (bl u : Int)) % M) (-((fP f : Int) - (bl u : Int))) (Nat.mod_lt _ M_pos)
  rw [n1] at hshr
  obtain ⟨j, hj⟩ : ∃ j : Nat, j = (tp - (1 - (fE f : Int))).toNat := ⟨_, rfl⟩
  have hjo := fun w h => pack_joined f f1 f4 ng j (u * 2 ^ fP f / 2 ^ bl u) (Nat.le_of_lt n2) (by
    have a : u * 2 ^ fP f / 2 ^ bl u / 2 ^ (fP f - 1) < 2 := by
      rw [Nat.div_lt_iff_lt_mul (Nat.pow_pos (by omega))]
      have b : 2 ^ fP f = 2 * 2 ^ (fP f - 1) := by
        obtain ⟨q, hq⟩ : ∃ q, fP f = q + 1 := ⟨fP f - 1, by omega⟩
        rw [hq, Nat.add_sub_cancel, Nat.pow_succ]; omega
      omega
    omega) w h
  rw [← hj]
  have hn0 : n ≠ 0 := fun h => by rw [h, bl_zero] at hb; omega
  have Q0 : decide (n = 0) = false := by simpa using hn0
  have hM := M_pos
  have hnM := M_bl hn
  have E1 : pl + (bl u : Int) - 1 = tp := by omega
  have E2 : pl - (tp - (fP f : Int) + 1) = (fP f : Int) - (bl u : Int) := by omega
  have E3 : tp - (1 - (fE f : Int)) = (j : Int) := by omega
  have q1 : ¬ (fE f : Int) < tp := by omega
  have q2 : ¬ tp < 1 - (fE f : Int) := by omega
  have pl1 : -2000000 ≤ pl := by omega
  have pl2 : pl ≤ 2000000 := by omega
  have z1 := fmC_size f
  have z2 := fmC_one f
  have g1 : (fmC f)[0 + 1]? = some (.int .i64 (fP f : Nat)) := rfl
  have g2 : (fmC f)[0 + 2]? = some (.int .i64 (fE f : Nat)) := rfl
  have g3 : (fmC f)[0 + 3]? = some (.int .i64 (1 - (fE f : Int))) := rfl
  have y1 := nbC_size ng e n
  have y2 := nbC_one ng e n
  have y0 := nbC_0 ng e n
  have hpt : Part (nbC ng e n) (wc 8 n) (nbC ng e n) (wc 8 n) 2 := part1 2 _ _ _ rfl rfl
  clear hF hb c1 c2 htp hpl hu n1 n2 huM hj ht1 ht2 hn hn0 he1 he2
  generalize encW f ng j (u * 2 ^ fP f / 2 ^ bl u) = res at *
  generalize u * 2 ^ fP f / 2 ^ bl u = sg at *
  generalize u * 2 ^ clampN ((fP f : Int) - (bl u : Int)) % M = ush at *
  generalize decide (restN n (bl n - fP f) more ≠ 0) = ix at *
  generalize (!decide (sg * 2 ^ clampN (-((fP f : Int) - (bl u : Int))) = ush)) = bb at *
  generalize (if ix = true then (16 : Int) else 0) = fl at *
  generalize nbC ng e n = cn at *
  generalize fmC f = cs at *
  generalize bl u = ku at *
  generalize fP f = p at *
  generalize fE f = E at *
  go_enter Tryz.func63, Tryz.ntmps63
  go_wp2_with ((first | (refine kg gf70 hst (fun w hst => hof w (hk.out w hst.keeps)) rfl rfl rfl rfl ?_; clear hst; intro w hst) | (refine kf gf62 hst (his) rfl rfl rfl rfl ?_; clear hst; intro w hst) | (refine kf gf93 hst (hri) rfl rfl rfl rfl ?_; clear hst; intro w hst) | (refine kf gf95 hst (hdg) rfl rfl rfl rfl ?_; clear hst; intro w hst) | (refine kf gf47 hst (hlen) rfl rfl rfl rfl ?_; clear hst; intro w hst) | (refine kf gf48 hst (hshl) rfl rfl rfl rfl ?_; clear hst; intro w hst) | (refine kf gf87 hst (hshr) rfl rfl rfl rfl ?_; clear hst; intro w hst) | (refine kg gf98 hst (fun w hst => hjo w (hk.out w hst.keeps)) rfl rfl rfl rfl ?_; clear hst; intro w hst) | (refine kf gf99 hst (hfl) rfl rfl rfl rfl ?_; clear hst; intro w hst) | (refine klm hst ta44 rfl ?_ (hc := hpt)) | (refine wl_guard (by rfl) ?_) | (refine kb 6 hst rfl rfl ?_; clear hst; intro b6 w hb6 hst) | (refine ka 8 hst tz24 rfl rfl ?_; clear hst; intro b8 w hb8 hst) | (refine ka 11 hst tz128 rfl rfl ?_; clear hst; intro b11 w hb11 hst) | (refine kt hst ta128 rfl rfl ?_; clear hst; intro w hst) | (refine kc hst tc3 rfl ?_) | (refine kl hst ta46 rfl ?_) | (refine kt hst ta24 rfl rfl ?_; clear hst; intro w hst) | (refine kl hst ta44 rfl ?_) | (refine ke tr44 tc22 rfl ?_) | (refine kc hst tc4 rfl ?_) | (refine ka 13 hst tz44 rfl rfl ?_; clear hst; intro b13 w hb13 hst) | (refine kt hst ta44 rfl rfl ?_; clear hst; intro w hst)); try simp only [pz, pn, sz, sc])
  refine bp_ctt rfl rfl (la hst ta24) (by rfl) (by rfl) ⟨?_, hst.keeps⟩
  rfl

end Go.Proofs.YtefpoconpeggpaaGreatDoor.Rd
