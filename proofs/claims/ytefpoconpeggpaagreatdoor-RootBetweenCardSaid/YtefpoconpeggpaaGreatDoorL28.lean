/- What pack.at, digits answer, of any number. -/
import Derived.Test.YtefpoconpeggpaaGreatDoorL27
import Derived.Test.YtefpoconpeggpaaGreatDoorL23
import Derived.Test.YtefpoconpeggpaaGreatDoorL11
import Derived.Test.YtefpoconpeggpaaGreatDoorL19
namespace Go.Proofs.YtefpoconpeggpaaGreatDoor.Rd
open Go Go.RowKit
set_option linter.unusedVariables false
set_option linter.unusedSimpArgs false
set_option maxRecDepth 100000

theorem fE_P (f : Nat) : fP f + 1 ≤ fE f := by unfold fP fE; split <;> (try split) <;> (try split) <;> omega
theorem fin_field (f m : Nat) (hfin : finB f m = true) : wField f m ≤ 2 * fE f := by
  have hlt : wField f m < 2 ^ fK f := Nat.mod_lt _ (Nat.pow_pos (by omega))
  rw [← fE_pow] at hlt
  unfold finB clsN at hfin
  simp only [Bool.and_eq_true, decide_eq_true_eq] at hfin
  have h := hfin.2
  by_cases hx : wField f m = 2 * fE f + 1
  · rw [if_pos hx] at h
    split at h
    · omega
    · split at h <;> omega
  · omega

/-- The root's whole part, and whether that is not all. -/
def rR (f m : Nat) : Nat := isqrt (rN f m)
def rMore (f m : Nat) : Bool := decide (rR f m * rR f m ≠ rN f m)
theorem rN_256 (f m : Nat) (h0 : wSig f m ≠ 0) : rN f m < 2 ^ 256 := by
  have h := (uSig_in f m h0).2
  have hP := fP_in f
  have hb := rB_in f m
  have a := pow_lt_of (fP f) (k := rB f m) h
  have b : 2 ^ (fP f + rB f m) ≤ 2 ^ 256 := Nat.pow_le_pow_right (by omega) (by omega)
  unfold rN; omega
theorem rR_root (f m : Nat) (h0 : wSig f m ≠ 0) : IsRoot (rN f m) (rR f m) := (isqrt_spec (by rw [four_128]; exact rN_256 f m h0)).1
theorem rR_bl (f m : Nat) (h0 : wSig f m ≠ 0) : fP f < bl (rR f m) ∧ bl (rR f m) ≤ fP f + 3 ∧ fP f + rB f m ≤ 2 * bl (rR f m) ∧ 2 * bl (rR f m) ≤ fP f + rB f m + 1 := by
  obtain ⟨r1, r2⟩ := rR_root f m h0
  obtain ⟨s1, s2⟩ := uSig_in f m h0
  have hP := fP_in f
  have hb := rB_in f m
  obtain ⟨_, q1, q2, _⟩ := radicand_in (fP f) (uSig f m) (rB f m) (rR f m) (by omega) (by omega) s1 s2 (by omega) (by omega) r1 r2
  refine ⟨q1, q2, ?_, ?_⟩
  · have a1 := le_mul_pow (fP f - 1) (k := rB f m) s1
    have a2 := (bl_spec (rR f m)).1
    have a3 := Nat.mul_self_le_mul_self (show rR f m + 1 ≤ 2 ^ bl (rR f m) from a2)
    rw [← Nat.pow_add] at a3
    rcases Nat.lt_or_ge (2 * bl (rR f m)) (fP f + rB f m) with h | h
    · exfalso
      have : 2 ^ (bl (rR f m) + bl (rR f m)) ≤ 2 ^ (fP f - 1 + rB f m) := Nat.pow_le_pow_right (by omega) (by omega)
      unfold rN at r2
      omega
    · exact h
  · have a1 := pow_lt_of (fP f) (k := rB f m) s2
    have hr0 : rR f m ≠ 0 := fun e => by rw [e, bl_zero] at q1; omega
    have a2 := bl_lo hr0
    have a3 := Nat.mul_self_le_mul_self a2
    rw [← Nat.pow_add] at a3
    rcases Nat.lt_or_ge (fP f + rB f m + 1) (2 * bl (rR f m)) with h | h
    · exfalso
      have : 2 ^ (fP f + rB f m) ≤ 2 ^ (bl (rR f m) - 1 + (bl (rR f m) - 1)) := Nat.pow_le_pow_right (by omega) (by omega)
      unfold rN at r1
      omega
    · exact h

/-- A root's highest place, rounded, lies among the normal ones. -/
theorem root_range (f m mo : Nat) (hfin : finB f m = true) (h0 : wSig f m ≠ 0) : 1 - (fE f : Int) ≤ rX f m + (bl (rR f m) - fP f : Nat) + bl (cutN (rR f m) (bl (rR f m) - fP f) (rMore f m) mo false) - 1 ∧ rX f m + (bl (rR f m) - fP f : Nat) + bl (cutN (rR f m) (bl (rR f m) - fP f) (rMore f m) mo false) - 1 ≤ (fE f : Int) := by
  obtain ⟨q1, q2, q3, q4⟩ := rR_bl f m h0
  have hP := fP_in f
  have hE := fE_in f
  have hEP := fE_P f
  have hx := rX_eq f m
  have hf := fin_field f m hfin
  have hb1 := bl_pos h0
  have hb2 : bl (wSig f m) ≤ fP f := bl_le.2 (wSig_lt f m)
  obtain ⟨c1, c2⟩ := cutN_range (rR f m) (fP f) (rMore f m) mo false (by omega) q1
  obtain ⟨_, _, n3, n4⟩ := norm_sig (fP f) _ c1 c2 (by omega) (by omega)
  have hu : uExp f m = wExp f m - (fP f : Int) + (bl (wSig f m) : Int) := by unfold uExp uUp; omega
  have hw : wExp f m = ((wField f m - 1 : Nat) : Int) + (1 - (fE f : Int)) - fP f + 1 := rfl
  generalize bl (cutN (rR f m) (bl (rR f m) - fP f) (rMore f m) mo false) = ku at *
  generalize bl (rR f m) = kr at *
  generalize bl (wSig f m) = ks at *
  generalize uExp f m = ue at *
  generalize rX f m = x at *
  generalize rB f m = b at *
  generalize wField f m = fld at *
  generalize wExp f m = we at *
  clear c1 c2 hfin h0
  constructor <;> omega

/-- A root's word and flags. -/
def rootW (f mo m : Nat) : Nat × Nat := rndR f mo false (rX f m) (rR f m) (rMore f m)
theorem rootW_in (f m mo : Nat) (hfin : finB f m = true) (h0 : wSig f m ≠ 0) (tp : Int) (htp : tp = rX f m + (bl (rR f m) - fP f : Nat) + bl (cutN (rR f m) (bl (rR f m) - fP f) (rMore f m) mo false) - 1) :
    (rootW f mo m).1 = encW f false (tp - (1 - (fE f : Int))).toNat (cutN (rR f m) (bl (rR f m) - fP f) (rMore f m) mo false * 2 ^ fP f / 2 ^ bl (cutN (rR f m) (bl (rR f m) - fP f) (rMore f m) mo false)) ∧
      ((rootW f mo m).2 : Int) = if decide (restN (rR f m) (bl (rR f m) - fP f) (rMore f m) ≠ 0) then 16 else 0 := by
  obtain ⟨a1, a2⟩ := root_range f m mo hfin h0
  obtain ⟨q1, _⟩ := rR_bl f m h0
  have e : rX f m + (bl (rR f m) : Int) - fP f + bl (cutN (rR f m) (bl (rR f m) - fP f) (rMore f m) mo false) - 1 = tp := by omega
  unfold rootW rndR
  rw [e, if_neg (by omega), if_neg (by omega)]
  refine ⟨rfl, ?_⟩
  dsimp only
  by_cases h : restN (rR f m) (bl (rR f m) - fP f) (rMore f m) = 0
  · rw [if_pos h]; simp [h]
  · rw [if_neg h]; simp [h]

set_option maxHeartbeats 2000000 in
theorem root_Finite (bs br : Nat) (hbs : bs ≠ 0) (hbr : br ≠ 0) (c : Array Value) (hc : RomOk c) (q : Nat → Int) (L : List (Nat × Obj)) (hS : SetSt bs br c q L) (k : Nat) (h1 : 1 ≤ k) (h2 : k ≤ 4) (hq1 : 0 ≤ q k) (hq2 : q k ≤ 1000)
    (f : Nat) (f1 : 1 ≤ f) (f4 : f ≤ 4) (mo : Nat) (m1 : 1 ≤ mo) (m5 : mo ≤ 5) (m : Nat) (hm : m < 2 ^ fB f) (hfin : finB f m = true) (h0 : wSig f m ≠ 0) (hng : wNeg f m = false) (w0 : World) (hF : FmtIn w0) (hL : Owns w0 L) :
    GivesZ Tryz.prog 7 #[.pointer (some ⟨bs, 0, none⟩), .int .i64 k, .int .i64 f, .int .i64 mo, Wd m] [bs, br] L (fun L' v => v = .tuple #[Wd (rootW f mo m).1, .int .i64 ((rootW f mo m).2 : Nat), .int .i64 0] ∧ SetSt bs br (romK k (rN f m) c) (bump k q) L') w0 := by
  refine ⟨fun y hy => by simp only [List.mem_cons, List.not_mem_nil, or_false] at hy; rcases hy with rfl | rfl; exact hS.bs.1; exact hS.bs.2, ?_⟩
  have hst := St.ofOwns [bs, br] hL
  have hk := Lib.hid (fun w (k : Keeps [bs, br] w0 w) => hF.keep k (by simp only [List.mem_cons, List.not_mem_nil, or_false, not_or]; exact ⟨fun e => hbs e.symm, fun e => hbr e.symm⟩))
  have hpa := fun w h => root_Parts f f1 f4 m hm hfin h0 hng w h
  have hmay := fun (w : World) (ho : Owns w L) => root_may bs br c q L hS k h1 h2 mo m1 m5 w ho
  obtain ⟨tp, htp⟩ : ∃ tp, tp = rX f m + (bl (rR f m) - fP f : Nat) + bl (cutN (rR f m) (bl (rR f m) - fP f) (rMore f m) mo false) - 1 := ⟨_, rfl⟩
  obtain ⟨a1, a2⟩ := root_range f m mo hfin h0
  rw [← htp] at a1 a2
  obtain ⟨e1, e2⟩ := rootW_in f m mo hfin h0 tp htp
  obtain ⟨b1, b2, _, _⟩ := rR_bl f m h0
  have hP := fP_in f
  have hue := uExp_in f m
  have hrx := rX_eq f m
  have hrb := rB_in f m
  have hr := rR_root f m h0
  have hmore : decide (rN f m - rR f m * rR f m = 0) = !(rMore f m) := by
    unfold rMore
    have := hr.1
    by_cases h : rR f m * rR f m = rN f m
    · rw [decide_eq_true (by omega)]; simp [h]
    · rw [decide_eq_false (by omega)]; simp [h]
  have hrd := fun L' (hS' : SetSt bs br c q L') (w : World) (hw : FmtIn w) (ho : Owns w L') => root_rounded bs br hbs hbr c hc q L' hS' k h1 h2 hq1 hq2 f f1 f4 mo m1 m5 (rN f m) (rN_256 f m h0) (rX f m) (by omega) (by omega) (rR f m) rfl (by omega) b1 (rMore f m) hmore tp htp a1 a2 _ _ e1 e2 w hw ho
  clear hS hL hF hc h1 h2 hq1 hq2 hbs hbr m1 m5 f1 f4 hm hfin h0 hng htp a1 a2 e1 e2 b1 b2 hue hrx hrb hr hmore hP
  generalize (rootW f mo m).1 = res at *
  generalize ((rootW f mo m).2 : Int) = fl at *
  generalize romK k (rN f m) c = c' at *
  generalize bump k q = q' at *
  generalize rN f m = n at *
  generalize rX f m = x at *
  go_enter Tryz.func7, Tryz.ntmps7
  go_wp2_with ((first | (refine kg gf23 hst (fun w hst => hpa w (hk.out w hst.keeps)) rfl rfl rfl rfl ?_; clear hst; intro w hst) | (refine kZ (o := ⟨some 28, _, _, _, _, _⟩) (fun L' => (b13, .cells (wc 8 n) 44) :: (b10, .cells (wc 2 0) 24) :: (b9, .cells (wdc m) 24) :: L') gf29 hst (fun w hst => hmay w (hst.owns (L := L) (.there (.there (.there .here))))) rfl rfl rfl rfl ?_; clear hst; intro v28 L1 w hR1 hnew1 hst; obtain ⟨rfl, hS1⟩ := hR1) | (refine kZ (o := ⟨some 39, _, _, _, _, _⟩) (fun L' => (b13, .cells (wc 8 n) 44) :: (b10, .cells (wc 2 0) 24) :: (b9, .cells (wdc m) 24) :: L') gf30 hst (fun w hst => hrd L1 hS1 w (hk.out w hst.keeps) (hst.owns (L := L1) (.there (.there (.there .here))))) rfl rfl rfl rfl ?_; clear hst; intro v39 L2 w hR2 hnew2 hst; obtain ⟨rfl, hS2⟩ := hR2) | (refine kb 9 hst rfl rfl ?_; clear hst; intro b9 w hb9 hst) | (refine ka 10 hst tz24 rfl rfl ?_; clear hst; intro b10 w hb10 hst) | (refine kl hst ta24 rfl ?_) | (refine ka 13 hst tz44 rfl rfl ?_; clear hst; intro b13 w hb13 hst) | (refine kt hst ta44 rfl rfl ?_; clear hst; intro w hst) | (refine kt hst ta24 rfl rfl ?_; clear hst; intro w hst) | (refine kl hst ta44 rfl ?_)); try simp only [pz, pn, sz, sc])
  exact bp_ctt rfl rfl (la hst ta24) (by rfl) (by rfl) (PostZ.of hst ⟨rfl, hS2⟩ (fun y hy => (hnew2 y hy).elim (fun h => by
    obtain ⟨z, hz, e⟩ := List.mem_map.1 h
    rw [← e]; exact hnew1 z hz) .inr))

end Go.Proofs.YtefpoconpeggpaaGreatDoor.Rd

namespace Go.Proofs.YtefpoconpeggpaaGreatDoor.Rd
open Go Go.RowKit
set_option linter.unusedVariables false
set_option linter.unusedSimpArgs false
set_option maxRecDepth 100000

theorem bl_one : bl 1 = 1 := rfl
theorem rX_t (f m : Nat) : wExp f m = 2 * rX f m + ((uUp f m + rB f m : Nat) : Int) ∧ rN f m = wSig f m * 2 ^ (uUp f m + rB f m) := by
  have h := rX_eq f m
  refine ⟨by unfold uExp at h; omega, ?_⟩
  unfold rN uSig
  rw [Nat.pow_add, Nat.mul_assoc]
theorem root_known (f m : Nat) (h0 : wSig f m ≠ 0) : KnC (fun a k => szC (a * a) (2 * k) (wSig f m) (wExp f m)) (rX f m) (rR f m) (rMore f m) := by
  obtain ⟨h1, h2⟩ := rX_t f m
  obtain ⟨r1, r2⟩ := rR_root f m h0
  exact KnC.root (wSig f m) (wExp f m) (rX f m) (uUp f m + rB f m) (rN f m) (rR f m) h1 h2 r1 r2
theorem wSig_dl (f m : Nat) : dl (wSig f m) ≤ 300 ∧ bl (wSig f m) ≤ 113 := by
  have hP := fP_in f
  have h := bl_small_dl (wSig f m) (fP f) (Nat.le_of_lt (wSig_lt f m)) (by omega)
  have := bl_le.2 (wSig_lt f m)
  omega

end Go.Proofs.YtefpoconpeggpaaGreatDoor.Rd

namespace Go.Proofs.YtefpoconpeggpaaGreatDoor.Rd
open Go Go.RowKit
set_option linter.unusedVariables false
set_option linter.unusedSimpArgs false
set_option maxRecDepth 100000

theorem M_key {n : Nat} (h : n = 512) : M = 2 ^ n := by
  have key : ∀ t, M = 2 ^ t → t = 512 → M = 2 ^ n := fun t e1 e2 => by rw [e1, e2, h]
  exact key (64 * 8) (by rw [M_eq, show B = 2 ^ 64 from rfl, ← Nat.pow_mul]) rfl
theorem M_le_pow {n : Nat} (h : 512 ≤ n) : M ≤ 2 ^ n := by
  obtain ⟨k, hk⟩ : ∃ k, k = 512 := ⟨_, rfl⟩
  rw [M_key hk]
  exact Nat.pow_le_pow_right (by omega) (by omega)
theorem shr_clamp (sig n : Nat) (hs : sig < M) : sig / 2 ^ clampN (n : Int) = sig / 2 ^ n := by
  by_cases h : n ≤ 512
  · rw [clampN_nat _ h]
  · obtain ⟨k, hk⟩ : ∃ k, k = 512 := ⟨_, rfl⟩
    have e : clampN (n : Int) = k := by unfold clampN; rw [if_neg (by omega), if_pos (by omega), hk]
    rw [e, Nat.div_eq_of_lt (Nat.lt_of_lt_of_le hs (M_le_pow (by omega))), Nat.div_eq_of_lt (Nat.lt_of_lt_of_le hs (M_le_pow (by omega)))]

set_option maxHeartbeats 2000000 in
theorem mode_Rest_512 (sig n : Nat) (hs : sig < M) (hn : n = 512) (more : Bool) : Gives Tryz.prog 149 #[W sig, .int .i64 n, .bool more] (.int .i64 (restN sig n more : Nat)) := by
  intro w0
  have hst := St.start [] w0
  have hpM : 2 ^ (n - 1) < M := by rw [M_key hn]; exact Nat.pow_lt_pow_right (by omega) (by omega)
  have hpw := wide_Power ((n : Int) - 1)
  rw [show pow2 ((n : Int) - 1) = 2 ^ (n - 1) by unfold pow2; rw [if_pos (by omega)]; congr 1; omega] at hpw
  have hcmp := wide_Cmp sig (2 ^ (n - 1)) hs hpM
  have hp0 : 0 < 2 ^ (n - 1) := Nat.pow_pos (by omega)
  have hM := M_pos
  have n0 : ¬ (n : Int) ≤ 0 := by omega
  have n5 : ¬ (n : Int) < 512 := by omega
  have n6 : ¬ (512 : Int) < (n : Int) := by omega
  have hW1 : IntKind.i64.wrap ((n : Int) - 1) = (n : Int) - 1 := by rw [IntKind.wrap_i64]; omega
  rw [restN_of sig n more (by omega), Nat.mod_eq_of_lt (show sig < 2 ^ n by rw [← M_key hn]; exact hs)]
  clear hpM hn
  generalize 2 ^ (n - 1) = p at *
  rcases Nat.lt_trichotomy sig p with hx | hx | hx
  · rw [show cmp sig p = -1 by unfold cmp; rw [if_pos hx]] at hcmp
    cases more
    · by_cases hx0 : sig = 0
      · rw [if_pos ⟨hx0, rfl⟩]
        have Q0 : decide (sig = 0) = true := by simpa using hx0
        clear hx hx0
        go_enter Tryz.func149, Tryz.ntmps149
        go_wp2_with ((first | (refine kb 3 hst rfl rfl ?_; clear hst; intro b3 w hb3 hst) | (refine kl hst ta44 rfl ?_) | (refine ka 7 hst tz44 rfl rfl ?_; clear hst; intro b7 w hb7 hst) | (refine kt hst ta44 rfl rfl ?_; clear hst; intro w hst)); try simp only [pz, pn, sz, sc])
        refine wp_region_T 6  hst (by kernel_rfl) ?_; clear hst; intro w hst; (try simp only [List.length_cons, List.length_nil, Nat.reduceAdd, Array.replicate_succ, Array.replicate_zero, List.push_toArray, List.nil_append, List.cons_append])
        refine r0 1 ?_; simp only [pz, pn, sz, sc, hW1]
        refine r0 2 ?_; simp only [pz, pn, sz, sc, hW1]
        refine rl 0 rfl ?_ (by first | exact ylA ta44 | exact ylM ta44); simp only [pz, pn, sz, sc, hW1]
        refine r1 3 ?_; (refine kf gf127 hst (hpw) rfl rfl rfl rfl ?_; clear hst; intro w hst); (try simp only [pz, pn, sz, sc, hW1]); refine re ?_
        refine r1 4 ?_; (refine kf gf166 hst (hcmp) rfl rfl rfl rfl ?_; clear hst; intro w hst); (try simp only [pz, pn, sz, sc, hW1]); refine re ?_
        refine r0 5 ?_; simp only [pz, pn, sz, sc, hW1]
        refine rd_ ?_
        all_goals
          go_wp2_with ((first | (refine wl_guard (by rfl) ?_) | (refine kl hst ta44 rfl ?_) | (refine kn tr44 tc22 rfl ?_)); try simp only [pz, pn, sz, sc])
          refine bp_t rfl rfl (by rfl) ⟨?_, hst.keeps⟩
          rfl
      · rw [if_neg (by simp [hx0]), if_pos hx]
        have Q0 : decide (sig = 0) = false := by simpa using hx0
        clear hx hx0
        go_enter Tryz.func149, Tryz.ntmps149
        go_wp2_with ((first | (refine kb 3 hst rfl rfl ?_; clear hst; intro b3 w hb3 hst) | (refine kl hst ta44 rfl ?_) | (refine ka 7 hst tz44 rfl rfl ?_; clear hst; intro b7 w hb7 hst) | (refine kt hst ta44 rfl rfl ?_; clear hst; intro w hst)); try simp only [pz, pn, sz, sc])
        refine wp_region_T 6  hst (by kernel_rfl) ?_; clear hst; intro w hst; (try simp only [List.length_cons, List.length_nil, Nat.reduceAdd, Array.replicate_succ, Array.replicate_zero, List.push_toArray, List.nil_append, List.cons_append])
        refine r0 1 ?_; simp only [pz, pn, sz, sc, hW1]
        refine r0 2 ?_; simp only [pz, pn, sz, sc, hW1]
        refine rl 0 rfl ?_ (by first | exact ylA ta44 | exact ylM ta44); simp only [pz, pn, sz, sc, hW1]
        refine r1 3 ?_; (refine kf gf127 hst (hpw) rfl rfl rfl rfl ?_; clear hst; intro w hst); (try simp only [pz, pn, sz, sc, hW1]); refine re ?_
        refine r1 4 ?_; (refine kf gf166 hst (hcmp) rfl rfl rfl rfl ?_; clear hst; intro w hst); (try simp only [pz, pn, sz, sc, hW1]); refine re ?_
        refine r0 5 ?_; simp only [pz, pn, sz, sc, hW1]
        refine rd_ ?_
        all_goals
          go_wp2_with ((first | (refine wl_guard (by rfl) ?_) | (refine kl hst ta44 rfl ?_) | (refine kn tr44 tc22 rfl ?_)); try simp only [pz, pn, sz, sc])
          refine bp_t rfl rfl (by rfl) ⟨?_, hst.keeps⟩
          rfl
    · rw [if_neg (by simp), if_pos hx]
      clear hx
      go_enter Tryz.func149, Tryz.ntmps149
      go_wp2_with ((first | (refine kb 3 hst rfl rfl ?_; clear hst; intro b3 w hb3 hst) | (refine kl hst ta44 rfl ?_) | (refine ka 7 hst tz44 rfl rfl ?_; clear hst; intro b7 w hb7 hst) | (refine kt hst ta44 rfl rfl ?_; clear hst; intro w hst)); try simp only [pz, pn, sz, sc])
      refine wp_region_T 6  hst (by kernel_rfl) ?_; clear hst; intro w hst; (try simp only [List.length_cons, List.length_nil, Nat.reduceAdd, Array.replicate_succ, Array.replicate_zero, List.push_toArray, List.nil_append, List.cons_append])
      refine r0 1 ?_; simp only [pz, pn, sz, sc, hW1]
      refine r0 2 ?_; simp only [pz, pn, sz, sc, hW1]
      refine rl 0 rfl ?_ (by first | exact ylA ta44 | exact ylM ta44); simp only [pz, pn, sz, sc, hW1]
      refine r1 3 ?_; (refine kf gf127 hst (hpw) rfl rfl rfl rfl ?_; clear hst; intro w hst); (try simp only [pz, pn, sz, sc, hW1]); refine re ?_
      refine r1 4 ?_; (refine kf gf166 hst (hcmp) rfl rfl rfl rfl ?_; clear hst; intro w hst); (try simp only [pz, pn, sz, sc, hW1]); refine re ?_
      refine r0 5 ?_; simp only [pz, pn, sz, sc, hW1]
      refine rd_ ?_
      all_goals
        go_wp2_with ((first | (refine wl_guard (by rfl) ?_)); try simp only [pz, pn, sz, sc])
        refine bp_t rfl rfl (by rfl) ⟨?_, hst.keeps⟩
        rfl
  · subst hx
    rw [show cmp sig sig = 0 by unfold cmp; rw [if_neg (by omega), if_neg (by omega)]] at hcmp
    have h0 : sig ≠ 0 := by omega
    clear hp0
    cases more
    · rw [if_neg (by simp [h0]), if_neg (by omega), if_pos ⟨rfl, rfl⟩]
      clear h0
      go_enter Tryz.func149, Tryz.ntmps149
      go_wp2_with ((first | (refine kb 3 hst rfl rfl ?_; clear hst; intro b3 w hb3 hst) | (refine kl hst ta44 rfl ?_) | (refine ka 7 hst tz44 rfl rfl ?_; clear hst; intro b7 w hb7 hst) | (refine kt hst ta44 rfl rfl ?_; clear hst; intro w hst)); try simp only [pz, pn, sz, sc])
      refine wp_region_T 6  hst (by kernel_rfl) ?_; clear hst; intro w hst; (try simp only [List.length_cons, List.length_nil, Nat.reduceAdd, Array.replicate_succ, Array.replicate_zero, List.push_toArray, List.nil_append, List.cons_append])
      refine r0 1 ?_; simp only [pz, pn, sz, sc, hW1]
      refine r0 2 ?_; simp only [pz, pn, sz, sc, hW1]
      refine rl 0 rfl ?_ (by first | exact ylA ta44 | exact ylM ta44); simp only [pz, pn, sz, sc, hW1]
      refine r1 3 ?_; (refine kf gf127 hst (hpw) rfl rfl rfl rfl ?_; clear hst; intro w hst); (try simp only [pz, pn, sz, sc, hW1]); refine re ?_
      refine r1 4 ?_; (refine kf gf166 hst (hcmp) rfl rfl rfl rfl ?_; clear hst; intro w hst); (try simp only [pz, pn, sz, sc, hW1]); refine re ?_
      refine r0 5 ?_; simp only [pz, pn, sz, sc, hW1]
      refine rd_ ?_
      all_goals
        go_wp2_with ((first | (refine wl_guard (by rfl) ?_)); try simp only [pz, pn, sz, sc])
        refine bp_t rfl rfl (by rfl) ⟨?_, hst.keeps⟩
        rfl
    · rw [if_neg (by simp), if_neg (by omega), if_neg (by simp)]
      clear h0
      go_enter Tryz.func149, Tryz.ntmps149
      go_wp2_with ((first | (refine kb 3 hst rfl rfl ?_; clear hst; intro b3 w hb3 hst) | (refine kl hst ta44 rfl ?_) | (refine ka 7 hst tz44 rfl rfl ?_; clear hst; intro b7 w hb7 hst) | (refine kt hst ta44 rfl rfl ?_; clear hst; intro w hst)); try simp only [pz, pn, sz, sc])
      refine wp_region_T 6  hst (by kernel_rfl) ?_; clear hst; intro w hst; (try simp only [List.length_cons, List.length_nil, Nat.reduceAdd, Array.replicate_succ, Array.replicate_zero, List.push_toArray, List.nil_append, List.cons_append])
      refine r0 1 ?_; simp only [pz, pn, sz, sc, hW1]
      refine r0 2 ?_; simp only [pz, pn, sz, sc, hW1]
      refine rl 0 rfl ?_ (by first | exact ylA ta44 | exact ylM ta44); simp only [pz, pn, sz, sc, hW1]
      refine r1 3 ?_; (refine kf gf127 hst (hpw) rfl rfl rfl rfl ?_; clear hst; intro w hst); (try simp only [pz, pn, sz, sc, hW1]); refine re ?_
      refine r1 4 ?_; (refine kf gf166 hst (hcmp) rfl rfl rfl rfl ?_; clear hst; intro w hst); (try simp only [pz, pn, sz, sc, hW1]); refine re ?_
      refine r0 5 ?_; simp only [pz, pn, sz, sc, hW1]
      refine rd_ ?_
      all_goals
        go_wp2_with ((first | (refine wl_guard (by rfl) ?_)); try simp only [pz, pn, sz, sc])
        refine bp_t rfl rfl (by rfl) ⟨?_, hst.keeps⟩
        rfl
  · rw [show cmp sig p = 1 by unfold cmp; rw [if_neg (by omega), if_pos hx]] at hcmp
    rw [if_neg (by omega), if_neg (by omega), if_neg (by omega)]
    clear hx
    go_enter Tryz.func149, Tryz.ntmps149
    go_wp2_with ((first | (refine kb 3 hst rfl rfl ?_; clear hst; intro b3 w hb3 hst) | (refine kl hst ta44 rfl ?_) | (refine ka 7 hst tz44 rfl rfl ?_; clear hst; intro b7 w hb7 hst) | (refine kt hst ta44 rfl rfl ?_; clear hst; intro w hst)); try simp only [pz, pn, sz, sc])
    refine wp_region_T 6  hst (by kernel_rfl) ?_; clear hst; intro w hst; (try simp only [List.length_cons, List.length_nil, Nat.reduceAdd, Array.replicate_succ, Array.replicate_zero, List.push_toArray, List.nil_append, List.cons_append])
    refine r0 1 ?_; simp only [pz, pn, sz, sc, hW1]
    refine r0 2 ?_; simp only [pz, pn, sz, sc, hW1]
    refine rl 0 rfl ?_ (by first | exact ylA ta44 | exact ylM ta44); simp only [pz, pn, sz, sc, hW1]
    refine r1 3 ?_; (refine kf gf127 hst (hpw) rfl rfl rfl rfl ?_; clear hst; intro w hst); (try simp only [pz, pn, sz, sc, hW1]); refine re ?_
    refine r1 4 ?_; (refine kf gf166 hst (hcmp) rfl rfl rfl rfl ?_; clear hst; intro w hst); (try simp only [pz, pn, sz, sc, hW1]); refine re ?_
    refine r0 5 ?_; simp only [pz, pn, sz, sc, hW1]
    refine rd_ ?_
    all_goals
      go_wp2_with fail
      refine bp_t rfl rfl (by rfl) ⟨?_, hst.keeps⟩
      rfl

theorem mode_Rest_hi (sig n : Nat) (hs : sig < M) (h1 : 512 < n) (h2 : n ≤ 8000000) (more : Bool) : Gives Tryz.prog 149 #[W sig, .int .i64 n, .bool more] (.int .i64 (restN sig n more : Nat)) := by
  intro w0
  have hst := St.start [] w0
  have n0 : ¬ (n : Int) ≤ 0 := by omega
  have n5 : ¬ (n : Int) < 512 := by omega
  have n6 : (512 : Int) < (n : Int) := by omega
  have hM := M_pos
  have hlt : sig < 2 ^ (n - 1) := Nat.lt_of_lt_of_le hs (M_le_pow (by omega))
  rw [restN_of sig n more (by omega), Nat.mod_eq_of_lt (Nat.lt_of_lt_of_le hs (M_le_pow (by omega)))]
  cases more
  · by_cases hx0 : sig = 0
    · rw [if_pos ⟨hx0, rfl⟩]
      have Q0 : decide (sig = 0) = true := by simpa using hx0
      clear hlt hx0 h1 h2
      go_enter Tryz.func149, Tryz.ntmps149
      go_wp2_with ((first | (refine wl_guard (by rfl) ?_) | (refine kb 3 hst rfl rfl ?_; clear hst; intro b3 w hb3 hst) | (refine kl hst ta44 rfl ?_) | (refine ka 7 hst tz44 rfl rfl ?_; clear hst; intro b7 w hb7 hst) | (refine kt hst ta44 rfl rfl ?_; clear hst; intro w hst) | (refine kn tr44 tc22 rfl ?_)); try simp only [pz, pn, sz, sc])
      refine bp_t rfl rfl (by rfl) ⟨?_, hst.keeps⟩
      rfl
    · rw [if_neg (by simp [hx0]), if_pos hlt]
      have Q0 : decide (sig = 0) = false := by simpa using hx0
      clear hlt hx0 h1 h2
      go_enter Tryz.func149, Tryz.ntmps149
      go_wp2_with ((first | (refine wl_guard (by rfl) ?_) | (refine kb 3 hst rfl rfl ?_; clear hst; intro b3 w hb3 hst) | (refine kl hst ta44 rfl ?_) | (refine ka 7 hst tz44 rfl rfl ?_; clear hst; intro b7 w hb7 hst) | (refine kt hst ta44 rfl rfl ?_; clear hst; intro w hst) | (refine kn tr44 tc22 rfl ?_)); try simp only [pz, pn, sz, sc])
      refine bp_t rfl rfl (by rfl) ⟨?_, hst.keeps⟩
      rfl
  · rw [if_neg (by simp), if_pos hlt]
    clear hlt h1 h2
    go_enter Tryz.func149, Tryz.ntmps149
    go_wp2_with ((first | (refine kb 3 hst rfl rfl ?_; clear hst; intro b3 w hb3 hst) | (refine kl hst ta44 rfl ?_) | (refine ka 7 hst tz44 rfl rfl ?_; clear hst; intro b7 w hb7 hst) | (refine kt hst ta44 rfl rfl ?_; clear hst; intro w hst)); try simp only [pz, pn, sz, sc])
    refine bp_t rfl rfl (by rfl) ⟨?_, hst.keeps⟩
    rfl

theorem mode_Rest_all (sig n : Nat) (hs : sig < M) (h1 : 1 ≤ n) (h2 : n ≤ 8000000) (more : Bool) : Gives Tryz.prog 149 #[W sig, .int .i64 n, .bool more] (.int .i64 (restN sig n more : Nat)) := by
  rcases Nat.lt_trichotomy n 512 with h | h | h
  · exact mode_Rest sig n hs h1 h more
  · exact mode_Rest_512 sig n hs h more
  · exact mode_Rest_hi sig n hs h h2 more

set_option maxHeartbeats 4000000 in
theorem mode_Cut_all (sig n : Nat) (hs : sig < M) (h1 : 1 ≤ n) (h2 : n ≤ 8000000) (more : Bool) (m : Nat) (m1 : 1 ≤ m) (m5 : m ≤ 5) (ng : Bool) : Gives Tryz.prog 121 #[W sig, .int .i64 n, .bool more, .int .i64 m, .bool ng] (.tuple #[W (cutN sig n more m ng), .bool (decide (restN sig n more ≠ 0))]) := by
  intro w0
  have hst := St.start [] w0
  have his := mode_Is_yes m (by omega) (by omega)
  have hrest := mode_Rest_all sig n hs h1 h2 more
  have hshr := wide_Shr sig (n : Nat) hs
  rw [shr_clamp sig n hs] at hshr
  have hoM : sig / 2 ^ n < M := Nat.lt_of_le_of_lt (Nat.div_le_self _ _) hs
  have hbit := wide_Bit (sig / 2 ^ n) 0 hoM (by omega)
  rw [Nat.testBit_zero, show ((0 : Nat) : Int) = 0 from rfl] at hbit
  have hgr := mode_Grows m m1 m5 ng (decide (sig / 2 ^ n % 2 = 1)) (restN sig n more) (restN_le _ _ _)
  have hof := of_u64 1 (by decide)
  have h1' := Lib.hid (wc_1 1 (by decide))
  have h1M : 1 < M := small_M (by decide)
  have hadd := wide_Add (sig / 2 ^ n) 1 hoM h1M
  have hlt : sig / 2 ^ n + 1 < M := by
    have : sig / 2 ^ n ≤ sig / 2 := Nat.div_le_div_left (Nat.le_trans (by decide : 2 ≤ 2 ^ 1) (Nat.pow_le_pow_right (by omega) h1)) (by omega)
    omega
  rw [Nat.mod_eq_of_lt hlt] at hadd
  unfold cutN
  have hne : decide (restN sig n more ≠ 0) = ((restN sig n more : Int) != 0) := by
    by_cases h : restN sig n more = 0
    · rw [h]; rfl
    · have q : ((restN sig n more : Int) != 0) = true := by simp; omega
      rw [q]; simpa using h
  rw [hne]
  clear hne hlt hoM hs h1 h2 m1 m5 h1M
  generalize decide (sig / 2 ^ n % 2 = 1) = odd at *
  generalize growsB m ng odd (restN sig n more) = gb at *
  generalize sig / 2 ^ n = o at *
  generalize restN sig n more = rs at *
  cases gb
  · rw [if_neg (by simp), Nat.add_zero]
    go_enter Tryz.func121, Tryz.ntmps121
    go_wp2_with ((first | (refine kf gf62 hst (his) rfl rfl rfl rfl ?_; clear hst; intro w hst) | (refine kf gf149 hst (hrest) rfl rfl rfl rfl ?_; clear hst; intro w hst) | (refine kf gf87 hst (hshr) rfl rfl rfl rfl ?_; clear hst; intro w hst) | (refine kf gf86 hst (hbit) rfl rfl rfl rfl ?_; clear hst; intro w hst) | (refine kf gf118 hst (hgr) rfl rfl rfl rfl ?_; clear hst; intro w hst) | (refine kb 5 hst rfl rfl ?_; clear hst; intro b5 w hb5 hst) | (refine ka 10 hst tz44 rfl rfl ?_; clear hst; intro b10 w hb10 hst) | (refine kt hst ta44 rfl rfl ?_; clear hst; intro w hst) | (refine kl hst ta44 rfl ?_) | (refine ka 13 hst tz44 rfl rfl ?_; clear hst; intro b13 w hb13 hst)); try simp only [pz, pn, sz, sc])
    refine bp_ct rfl rfl (la hst ta44) (by rfl) ⟨?_, hst.keeps⟩
    rfl
  · rw [if_pos rfl]
    go_enter Tryz.func121, Tryz.ntmps121
    go_wp2_with ((first | (refine kf gf62 hst (his) rfl rfl rfl rfl ?_; clear hst; intro w hst) | (refine kf gf149 hst (hrest) rfl rfl rfl rfl ?_; clear hst; intro w hst) | (refine kf gf87 hst (hshr) rfl rfl rfl rfl ?_; clear hst; intro w hst) | (refine kf gf86 hst (hbit) rfl rfl rfl rfl ?_; clear hst; intro w hst) | (refine kf gf118 hst (hgr) rfl rfl rfl rfl ?_; clear hst; intro w hst) | (refine kb 5 hst rfl rfl ?_; clear hst; intro b5 w hb5 hst) | (refine ka 10 hst tz44 rfl rfl ?_; clear hst; intro b10 w hb10 hst) | (refine kt hst ta44 rfl rfl ?_; clear hst; intro w hst) | (refine kl hst ta44 rfl ?_) | (refine ka 13 hst tz44 rfl rfl ?_; clear hst; intro b13 w hb13 hst)); try simp only [pz, pn, sz, sc])
    refine wp_region_T 7  hst (by kernel_rfl) ?_; clear hst; intro w hst; (try simp only [List.length_cons, List.length_nil, Nat.reduceAdd, Array.replicate_succ, Array.replicate_zero, List.push_toArray, List.nil_append, List.cons_append])
    refine rl 0 rfl ?_ (by first | exact ylA ta44 | exact ylM ta44); simp only [pz, pn, sz, sc]
    refine r1 1 ?_; (refine wl_slice1 (o := ⟨some 37, _, _, _, _, _⟩) hst ts123 te22 rfl rfl (by (simp only [eval_lit, eval_k, eval_f, eval_g, List.getD_cons_succ, List.getD_cons_zero]) <;> rfl) (by rfl) ?_; clear hst; intro b37 w hb37 hst); (try simp only [pz, pn, sz, sc]); refine re ?_
    refine r1 2 ?_; (refine kg gf131 hst (fun w hst => hof _ w (by rw [← h1'.out]; exact hst.own _ _ (by repeat (first | exact List.Mem.head _ | refine List.Mem.tail _ ?_)))) rfl rfl rfl rfl ?_; clear hst; intro w hst); (try simp only [pz, pn, sz, sc]); refine re ?_
    refine r1 3 ?_; (refine kf gf104 hst (hadd) rfl rfl rfl rfl ?_; clear hst; intro w hst); (try simp only [pz, pn, sz, sc]); refine re ?_
    refine r0 4 ?_; simp only [pz, pn, sz, sc]
    refine r0 5 ?_; simp only [pz, pn, sz, sc]
    refine r0 6 ?_; simp only [pz, pn, sz, sc]
    refine r1 7 ?_; (refine kt hst ta44 rfl rfl ?_; clear hst; intro w hst); (try simp only [pz, pn, sz, sc]); refine re ?_
    refine rd_ ?_
    all_goals
      go_wp2_with ((first | (refine kt hst ta44 rfl rfl ?_; clear hst; intro w hst) | (refine kl hst ta44 rfl ?_)); try simp only [pz, pn, sz, sc])
      refine bp_ct rfl rfl (la hst ta44) (by rfl) ⟨?_, hst.keeps⟩
      rfl

end Go.Proofs.YtefpoconpeggpaaGreatDoor.Rd

namespace Go.Proofs.YtefpoconpeggpaaGreatDoor.Rd
open Go Go.RowKit
set_option linter.unusedVariables false
set_option linter.unusedSimpArgs false
set_option maxRecDepth 100000

set_option maxHeartbeats 1000000 in
theorem pack_at_all (pl : Int) (m : Nat) (m1 : 1 ≤ m) (m5 : m ≤ 5) (ng : Bool) (e : Int) (n : Nat) (hn : n < M) (he1 : -1048576 ≤ e) (he2 : e ≤ 1048576) (hl1 : -4000000 ≤ pl) (hl2 : pl ≤ 4000000) (hlt : pl - e ≤ 0 → n * 2 ^ (e - pl).toNat < M) (more : Bool) :
    Gives Tryz.prog 97 #[.int .i64 pl, .int .i64 m, .agg (nbC ng e n), .bool more] (.tuple #[W (rAt pl m ng e n more).1, .bool (rAt pl m ng e n more).2]) := by
  intro w0
  have hst := St.start [] w0
  have y1 := nbC_size ng e n
  have y2 := nbC_one ng e n
  have g0 := nbC_0 ng e n
  have g1 := nbC_1 ng e n
  have hpt : Part (nbC ng e n) (wc 8 n) (nbC ng e n) (wc 8 n) 2 := part1 2 _ _ _ rfl rfl
  have W1 : IntKind.i64.wrap (pl - e) = pl - e := by rw [IntKind.wrap_i64]; omega
  unfold rAt
  by_cases h : pl - e ≤ 0
  · rw [if_pos h]
    have hshl := wide_Shl n (e - pl) hn
    have ec : n * 2 ^ clampN (e - pl) % M = n * 2 ^ (e - pl).toNat := by
      by_cases h5 : e - pl ≤ 512
      · have : clampN (e - pl) = (e - pl).toNat := by unfold clampN; rw [if_neg (by omega), if_neg (by omega)]
        rw [this, Nat.mod_eq_of_lt (hlt h)]
      · have hz : n = 0 := by
          rcases Nat.eq_zero_or_pos n with h0 | h0
          · exact h0
          · exfalso
            have a := hlt h
            have b := M_le_pow (n := (e - pl).toNat) (by omega)
            have c : 1 * 2 ^ (e - pl).toNat ≤ n * 2 ^ (e - pl).toNat := Nat.mul_le_mul_right _ h0
            omega
        rw [hz, Nat.zero_mul, Nat.zero_mul, Nat.zero_mod]
    rw [ec] at hshl
    generalize n * 2 ^ (e - pl).toNat = x at *
    obtain ⟨d, hd⟩ : ∃ d : Int, d = pl - e := ⟨_, rfl⟩
    have hd1 : -d = e - pl := by omega
    rw [← hd] at W1 h
    have E1 : pl - e = d := hd.symm
    rw [← hd1] at hshl
    have W2 : IntKind.i64.wrap (-d) = -d := by rw [IntKind.wrap_i64]; omega
    have hdl : -10000000 ≤ d := by omega
    clear hn hlt ec m1 m5 hd1 hd
    generalize nbC ng e n = cs at *
    go_enter Tryz.func97, Tryz.ntmps97
    go_wp2_with ((first | (refine klm hst ta44 rfl ?_ (hc := hpt)) | (refine kf gf48 hst (hshl) rfl rfl rfl rfl ?_; clear hst; intro w hst) | (refine kb 6 hst rfl rfl ?_; clear hst; intro b6 w hb6 hst) | (refine ka 8 hst tz44 rfl rfl ?_; clear hst; intro b8 w hb8 hst) | (refine kc hst tc3 rfl ?_) | (refine kt hst ta44 rfl rfl ?_; clear hst; intro w hst)); try simp only [pz, pn, sz, sc])
    refine bp_ct rfl rfl (la hst ta44) (by rfl) ⟨?_, hst.keeps⟩
    rfl
  · rw [if_neg h]
    obtain ⟨b, hb⟩ : ∃ b : Nat, pl - e = (b : Int) := ⟨(pl - e).toNat, by omega⟩
    rw [show (pl - e).toNat = b by omega]
    have hcut := mode_Cut_all n b hn (by omega) (by omega) more m m1 m5 ng
    have b0 : ¬ (b : Int) ≤ 0 := by omega
    have hbl : (b : Int) ≤ 8000000 := by omega
    generalize nbC ng e n = cs at *
    generalize cutN n b more m ng = x at *
    generalize decide (restN n b more ≠ 0) = ix at *
    clear hn hlt m1 m5 h
    go_enter Tryz.func97, Tryz.ntmps97
    go_wp2_with ((first | (refine klm hst ta44 rfl ?_ (hc := hpt)) | (refine kf gf121 hst (hcut) rfl rfl rfl rfl ?_; clear hst; intro w hst) | (refine kb 6 hst rfl rfl ?_; clear hst; intro b6 w hb6 hst) | (refine ka 8 hst tz44 rfl rfl ?_; clear hst; intro b8 w hb8 hst) | (refine kc hst tc3 rfl ?_) | (refine kt hst ta44 rfl rfl ?_; clear hst; intro w hst) | (refine kc hst tc4 rfl ?_)); try simp only [pz, pn, sz, sc])
    refine bp_ct rfl rfl (la hst ta44) (by rfl) ⟨?_, hst.keeps⟩
    rfl

set_option maxHeartbeats 1000000 in
theorem pack_digits_all (p : Nat) (hp1 : 1 ≤ p) (hp2 : p ≤ 500) (m : Nat) (m1 : 1 ≤ m) (m5 : m ≤ 5) (ng : Bool) (e : Int) (n : Nat) (he1 : -1048576 ≤ e) (he2 : e ≤ 1048576) (hn : bl n ≤ 511) (more : Bool) :
    Gives Tryz.prog 95 #[.int .i64 p, .int .i64 m, .agg (nbC ng e n), .bool more] (.tuple #[W (rDig p m ng e n more).1, .int .i64 (rDig p m ng e n more).2.1, .bool (rDig p m ng e n more).2.2]) := by
  by_cases hb : bl n ≤ p
  · unfold rDig
    rw [if_pos hb]
    intro w0
    have hst := St.start [] w0
    have hlen := wide_Len n (M_bl hn)
    have W1 : IntKind.i64.wrap (e + (bl n : Int)) = e + (bl n : Int) := by rw [IntKind.wrap_i64]; omega
    have W2 : IntKind.i64.wrap (e + (bl n : Int) - 1) = e + (bl n : Int) - 1 := by rw [IntKind.wrap_i64]; omega
    have E2 : e + (bl n : Int) - 1 - (p : Int) + 1 ≤ e := by omega
    have y1 : (#[Value.bool ng, .int .i64 e] ++ wc 8 n).size = 10 := by simp
    have y2 : OneC (#[Value.bool ng, .int .i64 e] ++ wc 8 n) := nbC_one ng e n
    clear hb m1 m5
    unfold nbC
    generalize bl n = k at *
    go_enter Tryz.func95, Tryz.ntmps95
    go_wp2_with ((first | (refine kb 6 hst rfl rfl ?_; clear hst; intro b6 w hb6 hst) | (refine ka 8 hst tz44 rfl rfl ?_; clear hst; intro b8 w hb8 hst)); try simp only [pz, pn, sz, sc])
    refine wp_region_T 8  hst (by kernel_rfl) ?_; clear hst; intro w hst; (try simp only [List.length_cons, List.length_nil, Nat.reduceAdd, Array.replicate_succ, Array.replicate_zero, List.push_toArray, List.nil_append, List.cons_append])
    refine r0 0 ?_; simp only [pz, pn, sz, sc, W1, W2]
    refine r0 2 ?_; simp only [pz, pn, sz, sc, W1, W2]
    refine rl 1 rfl ?_ (ylC tc3); simp only [pz, pn, sz, sc, W1, W2]
    refine rl 3 rfl ?_ (by first | exact ylA ta44 | exact ylM ta44); simp only [pz, pn, sz, sc, W1, W2]
    refine r1 4 ?_; (refine kf gf47 hst (hlen) rfl rfl rfl rfl ?_; clear hst; intro w hst); (try simp only [pz, pn, sz, sc, W1, W2]); refine re ?_
    refine r0 5 ?_; simp only [pz, pn, sz, sc, W1, W2]
    refine r0 6 ?_; simp only [pz, pn, sz, sc, W1, W2]
    refine r0 7 ?_; simp only [pz, pn, sz, sc, W1, W2]
    refine rd_ ?_
    all_goals
      go_wp2_with ((first | (refine kc hst tc3 rfl ?_)); try simp only [pz, pn, sz, sc])
      refine wp_region_TV 8 [(b6, .cells (#[Value.bool ng, .int .i64 e] ++ wc 8 n) 46)] hst (by kernel_rfl) ?_; clear hst; intro w hst; (try simp only [List.length_cons, List.length_nil, Nat.reduceAdd, Array.replicate_succ, Array.replicate_zero, List.push_toArray, List.nil_append, List.cons_append])
      refine r0 0 ?_; simp only [pz, pn, sz, sc]
      refine r0 2 ?_; simp only [pz, pn, sz, sc]
      refine r0 4 ?_; simp only [pz, pn, sz, sc]
      refine rl 1 rfl ?_ (by first | exact ylA ta44 | exact ylM ta44); simp only [pz, pn, sz, sc]
      refine rl 3 rfl ?_ (ylC tc3); simp only [pz, pn, sz, sc]
      refine r1 5 ?_; (refine kt hst ta44 rfl rfl ?_; clear hst; intro w hst); (try simp only [pz, pn, sz, sc]); refine re ?_
      refine r0 6 ?_; simp only [pz, pn, sz, sc]
      refine r0 7 ?_; simp only [pz, pn, sz, sc]
      refine rd_ ?_
      all_goals
        go_wp2_with fail
        refine bp_ctt rfl rfl (la hst ta44) (by rfl) (by rfl) ⟨?_, hst.keeps⟩
        rfl
  · unfold rDig
    rw [if_neg hb]
    exact pack_digits_cut p hp1 hp2 m m1 m5 ng e n he1 he2 hn (by omega) more

end Go.Proofs.YtefpoconpeggpaaGreatDoor.Rd
