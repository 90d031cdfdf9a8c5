/- What unpack.made, Unpack answer. -/
import Derived.Test.YtefpoconpeggpaaGreatDoorK07
import Derived.Test.YtefpoconpeggpaaGreatDoorK03
namespace Go.Proofs.YtefpoconpeggpaaGreatDoor.Rd
open Go Go.RowKit
set_option linter.unusedVariables false
set_option linter.unusedSimpArgs false
set_option maxRecDepth 100000

theorem mode_Is_yes (m : Int) (h1 : 1 ≤ m) (h5 : m ≤ 5) : Gives Tryz.prog 62 #[.int .i64 m] (.bool true) := by
  intro w0
  have hst := St.start [] w0
  have h6 : m < 6 := by omega
  go_enter Tryz.func62, Tryz.ntmps62
  go_wp2_with fail
  refine bp_t rfl rfl (by rfl) ⟨?_, hst.keeps⟩
  rfl

/-- A number's cells. -/
def nbC (neg : Bool) (e : Int) (n : Nat) : Array Value := #[.bool neg, .int .i64 e] ++ wc 8 n
theorem nbC_size (neg : Bool) (e : Int) (n : Nat) : (nbC neg e n).size = 10 := by simp [nbC]
theorem nbC_one (neg : Bool) (e : Int) (n : Nat) : OneC (nbC neg e n) := ⟨by unfold nbC; rw [Array.all_append, wc_one]; simp [Value.oneCell']⟩
theorem nbC_0 (neg : Bool) (e : Int) (n : Nat) : (nbC neg e n)[0]? = some (.bool neg) := by unfold nbC; exact pre_get (cells_get rfl)
theorem nbC_1 (neg : Bool) (e : Int) (n : Nat) : (nbC neg e n)[0 + 1]? = some (.int .i64 e) := by unfold nbC; exact pre_get (cells_get rfl)

theorem unpack_Right (neg : Bool) (e : Int) (n : Nat) (h1 : -1048576 ≤ e) (h2 : e ≤ 1048576) : Gives Tryz.prog 85 #[.agg (nbC neg e n)] (.bool true) := by
  intro w0
  have hst := St.start [] w0
  have z1 := nbC_size neg e n
  have z2 := nbC_one neg e n
  have g1 := nbC_1 neg e n
  generalize nbC neg e n = cs at *
  go_enter Tryz.func85, Tryz.ntmps85
  go_wp2_with ((first | (refine wl_guard (by rfl) ?_) | (refine kb 1 hst rfl rfl ?_; clear hst; intro b1 w hb1 hst) | (refine kc hst tc3 rfl ?_)); try simp only [pz, pn, sz, sc])
  refine bp_t rfl rfl (by rfl) ⟨?_, hst.keeps⟩
  rfl

theorem pack_flagged (b : Bool) (k : Int) : Gives Tryz.prog 99 #[.bool b, .int .i64 k] (.int .i64 (if b then k else 0)) := by
  intro w0
  have hst := St.start [] w0
  cases b
  · go_enter Tryz.func99, Tryz.ntmps99
    go_wp2_with fail
    refine bp_t rfl rfl (by rfl) ⟨?_, hst.keeps⟩
    rfl
  · go_enter Tryz.func99, Tryz.ntmps99
    go_wp2_with fail
    refine bp_t rfl rfl (by rfl) ⟨?_, hst.keeps⟩
    rfl

theorem ref05_Prec (f : Nat) (h1 : 1 ≤ f) (h4 : f ≤ 4) : Gives Tryz.prog 25 #[.int .i64 f] (.int .i64 (fP f : Nat)) := by
  intro w0
  have hst := St.start [] w0
  obtain rfl | rfl | rfl | rfl : f = 1 ∨ f = 2 ∨ f = 3 ∨ f = 4 := by omega
  · rw [show ((1 : Nat) : Int) = 1 from rfl, show ((fP 1 : Nat) : Int) = 11 by kernel_rfl]
    go_enter Tryz.func25, Tryz.ntmps25
    go_wp2_with fail
    refine bp_t rfl rfl (by rfl) ⟨?_, hst.keeps⟩
    rfl
  · rw [show ((2 : Nat) : Int) = 2 from rfl, show ((fP 2 : Nat) : Int) = 24 by kernel_rfl]
    go_enter Tryz.func25, Tryz.ntmps25
    go_wp2_with fail
    refine bp_t rfl rfl (by rfl) ⟨?_, hst.keeps⟩
    rfl
  · rw [show ((3 : Nat) : Int) = 3 from rfl, show ((fP 3 : Nat) : Int) = 53 by kernel_rfl]
    go_enter Tryz.func25, Tryz.ntmps25
    go_wp2_with fail
    refine bp_t rfl rfl (by rfl) ⟨?_, hst.keeps⟩
    rfl
  · rw [show ((4 : Nat) : Int) = 4 from rfl, show ((fP 4 : Nat) : Int) = 113 by kernel_rfl]
    go_enter Tryz.func25, Tryz.ntmps25
    go_wp2_with fail
    refine bp_t rfl rfl (by rfl) ⟨?_, hst.keeps⟩
    rfl

theorem ref05_Prec_no (f : Int) (h : f < 1 ∨ 4 < f) : Gives Tryz.prog 25 #[.int .i64 f] (.int .i64 0) := by
  intro w0
  have hst := St.start [] w0
  have q1 : (f == 1) = false := by simp; omega
  have q2 : (f == 2) = false := by simp; omega
  have q3 : (f == 3) = false := by simp; omega
  have q4 : (f == 4) = false := by simp; omega
  clear h
  go_enter Tryz.func25, Tryz.ntmps25
  go_wp2_with fail
  refine bp_t rfl rfl (by rfl) ⟨?_, hst.keeps⟩
  rfl

theorem ref05_Is (f : Nat) (h1 : 1 ≤ f) (h4 : f ≤ 4) : Gives Tryz.prog 100 #[.int .i64 f] (.bool true) := by
  intro w0
  have hst := St.start [] w0
  have hp := ref05_Prec f h1 h4
  have h0 := (fP_in f).1
  have h0' : 0 < fP f := by omega
  clear h0
  generalize fP f = p at *
  go_enter Tryz.func100, Tryz.ntmps100
  go_wp2_with ((first | (refine kf gf25 hst (hp) rfl rfl rfl rfl ?_; clear hst; intro w hst)); try simp only [pz, pn, sz, sc])
  refine bp_t rfl rfl (by rfl) ⟨?_, hst.keeps⟩
  rfl

theorem ref05_Is_no (f : Int) (h : f < 1 ∨ 4 < f) : Gives Tryz.prog 100 #[.int .i64 f] (.bool false) := by
  intro w0
  have hst := St.start [] w0
  have hp := ref05_Prec_no f h
  clear h
  go_enter Tryz.func100, Tryz.ntmps100
  go_wp2_with ((first | (refine kf gf25 hst (hp) rfl rfl rfl rfl ?_; clear hst; intro w hst)); try simp only [pz, pn, sz, sc])
  refine bp_t rfl rfl (by rfl) ⟨?_, hst.keeps⟩
  rfl

end Go.Proofs.YtefpoconpeggpaaGreatDoor.Rd

namespace Go.Proofs.YtefpoconpeggpaaGreatDoor.Rd
open Go Go.RowKit
set_option linter.unusedVariables false
set_option linter.unusedSimpArgs false
set_option maxRecDepth 100000

theorem two_pow_limb (n : Nat) : 2 ^ n = 2 ^ (n % 64) * B ^ (n / 64) := by
  have : B ^ (n / 64) = 2 ^ (64 * (n / 64)) := by unfold B; rw [← Nat.pow_mul]
  rw [this, ← Nat.pow_add]
  congr 1
  omega

/-- What wide.Power answers. -/
def pow2 (n : Int) : Nat := if 0 ≤ n ∧ n < 512 then 2 ^ n.toNat else 0

set_option maxHeartbeats 1000000 in
theorem wide_Power (n : Int) : Gives Tryz.prog 127 #[.int .i64 n] (W (pow2 n)) := by
  intro w0
  have hst := St.start [] w0
  by_cases h0 : 0 ≤ n
  · by_cases h1 : n < 512
    · have hq : 0 ≤ n / 64 ∧ n / 64 < 8 := by omega
      have hr : 0 ≤ n % 64 ∧ n % 64 < 64 := by omega
      obtain ⟨hq1, hq2⟩ := hq
      obtain ⟨hr1, hr2⟩ := hr
      have hset : (wc 8 0).setIfInBounds (n / 64).toNat (.int .u64 (IntKind.u64.wrap (2 ^ (n % 64).toNat))) = wc 8 (pow2 n) := by
        obtain ⟨m, rfl⟩ := Int.eq_ofNat_of_zero_le h0
        have e1 : ((m : Int) / 64).toNat = m / 64 := by omega
        have e2 : ((m : Int) % 64).toNat = m % 64 := by omega
        have e3 : 2 ^ (m % 64) < B := Nat.pow_lt_pow_right (by omega) (by omega)
        have e4 : IntKind.u64.wrap (2 ^ (m % 64)) = ((2 ^ (m % 64) : Nat) : Int) := by
          rw [cast_pow2, u64_wrap, Nat.mod_eq_of_lt e3]
        rw [e1, e2, e4, wc_set 8 0 _ _ (Bp_pos _) e3, Nat.zero_add, ← two_pow_limb]
        have : pow2 (m : Int) = 2 ^ m := by simp [pow2]; omega
        rw [this]
      have hset' := Lib.hid hset
      clear hset
      go_enter Tryz.func127, Tryz.ntmps127
      go_wp2_with ((first | (refine ka 2 hst tz44 rfl rfl ?_; clear hst; intro b2 w hb2 hst) | (refine ka 3 hst tz44 rfl rfl ?_; clear hst; intro b3 w hb3 hst) | (refine ks hst tc22 rfl rfl ?_; clear hst; intro w hst; (try rw [hset'.out] at hst)) | (refine kl hst ta44 rfl ?_) | (refine kt hst ta44 rfl rfl ?_; clear hst; intro w hst; (try rw [hset'.out] at hst))); try simp only [pz, pn, sz, sc])
      refine bp_c rfl rfl (la hst ta44) ⟨?_, hst.keeps⟩
      rfl
    · go_enter Tryz.func127, Tryz.ntmps127
      go_wp2_with ((first | (refine ka 2 hst tz44 rfl rfl ?_; clear hst; intro b2 w hb2 hst) | (refine ka 3 hst tz44 rfl rfl ?_; clear hst; intro b3 w hb3 hst) | (refine kl hst ta44 rfl ?_) | (refine kt hst ta44 rfl rfl ?_; clear hst; intro w hst)); try simp only [pz, pn, sz, sc])
      refine bp_c rfl rfl (la hst ta44) ⟨?_, hst.keeps⟩
      have e : pow2 n = 0 := by unfold pow2; rw [if_neg (by omega)]
      rw [e]; rfl
  · go_enter Tryz.func127, Tryz.ntmps127
    go_wp2_with ((first | (refine ka 2 hst tz44 rfl rfl ?_; clear hst; intro b2 w hb2 hst) | (refine ka 3 hst tz44 rfl rfl ?_; clear hst; intro b3 w hb3 hst) | (refine kl hst ta44 rfl ?_) | (refine kt hst ta44 rfl rfl ?_; clear hst; intro w hst)); try simp only [pz, pn, sz, sc])
    refine bp_c rfl rfl (la hst ta44) ⟨?_, hst.keeps⟩
    have e : pow2 n = 0 := by unfold pow2; rw [if_neg (by omega)]
    rw [e]; rfl

end Go.Proofs.YtefpoconpeggpaaGreatDoor.Rd

namespace Go.Proofs.YtefpoconpeggpaaGreatDoor.Rd
open Go Go.RowKit
set_option linter.unusedVariables false
set_option linter.unusedSimpArgs false
set_option maxRecDepth 100000

theorem class_Of (f : Nat) (h1 : 1 ≤ f) (h4 : f ≤ 4) (m : Nat) (hm : m < 2 ^ fB f) (w0 : World) (hF : FmtIn w0) : GivesAt Tryz.prog 151 #[.int .i64 f, Wd m] (.int .i64 (clsN f m : Nat)) w0 := by
  have hst := St.start [] w0
  have hk := Lib.hid (fun w (k : Keeps [] w0 w) => hF.keep k (by simp))
  have ha := fun w h => ask_int f h1 h4 m hm 168 gf168 _ w h (fun w' _ => (class_kind f m).at w')
  clear hF hm
  generalize clsN f m = x at *
  go_enter Tryz.func151, Tryz.ntmps151
  go_wp2_with ((first | (refine kg gf152 hst (fun w hst => ha w (hk.out w hst.keeps)) rfl rfl rfl rfl ?_; clear hst; intro w hst) | (refine kb 3 hst rfl rfl ?_; clear hst; intro b3 w hb3 hst) | (refine kl hst ta24 rfl ?_)); try simp only [pz, pn, sz, sc])
  refine bp_t rfl rfl (by rfl) ⟨?_, hst.keeps⟩
  rfl

theorem class_Of_no (f : Nat) (h1 : 1 ≤ f) (h4 : f ≤ 4) (m : Nat) (hm2 : m < M2) (hm : ¬ m < 2 ^ fB f) (w0 : World) (hF : FmtIn w0) : GivesAt Tryz.prog 151 #[.int .i64 f, Wd m] (.int .i64 0) w0 := by
  have hst := St.start [] w0
  have hk := Lib.hid (fun w (k : Keeps [] w0 w) => hF.keep k (by simp))
  have ha := fun g w h => ask_int_no f h1 h4 m hm2 hm g w h
  clear hF hm
  go_enter Tryz.func151, Tryz.ntmps151
  go_wp2_with ((first | (refine kg gf152 hst (fun w hst => ha _ w (hk.out w hst.keeps)) rfl rfl rfl rfl ?_; clear hst; intro w hst) | (refine kb 3 hst rfl rfl ?_; clear hst; intro b3 w hb3 hst) | (refine kl hst ta24 rfl ?_)); try simp only [pz, pn, sz, sc])
  refine bp_t rfl rfl (by rfl) ⟨?_, hst.keeps⟩
  rfl

theorem class_Neg (f : Nat) (h1 : 1 ≤ f) (h4 : f ≤ 4) (m : Nat) (hm : m < 2 ^ fB f) (w0 : World) (hF : FmtIn w0) : GivesAt Tryz.prog 128 #[.int .i64 f, Wd m] (.bool (wNeg f m)) w0 := by
  have hst := St.start [] w0
  have hk := Lib.hid (fun w (k : Keeps [] w0 w) => hF.keep k (by simp))
  have ha := fun w h => ask_bool f h1 h4 m hm 157 gf157 _ w h (fun w' _ => (class_Neg_1 f m).at w')
  clear hF hm
  generalize wNeg f m = x at *
  go_enter Tryz.func128, Tryz.ntmps128
  go_wp2_with ((first | (refine kg gf156 hst (fun w hst => ha w (hk.out w hst.keeps)) rfl rfl rfl rfl ?_; clear hst; intro w hst) | (refine kb 3 hst rfl rfl ?_; clear hst; intro b3 w hb3 hst) | (refine kl hst ta24 rfl ?_)); try simp only [pz, pn, sz, sc])
  refine bp_t rfl rfl (by rfl) ⟨?_, hst.keeps⟩
  rfl

theorem class_Field (f : Nat) (h1 : 1 ≤ f) (h4 : f ≤ 4) (m : Nat) (hm : m < 2 ^ fB f) (w0 : World) (hF : FmtIn w0) : GivesAt Tryz.prog 125 #[.int .i64 f, Wd m] (.int .i64 (wField f m : Nat)) w0 := by
  have hst := St.start [] w0
  have hk := Lib.hid (fun w (k : Keeps [] w0 w) => hF.keep k (by simp))
  have ha := fun w h => ask_int f h1 h4 m hm 153 gf153 _ w h (fun w' _ => (class_Field_1 f m).at w')
  clear hF hm
  generalize wField f m = x at *
  go_enter Tryz.func125, Tryz.ntmps125
  go_wp2_with ((first | (refine kg gf152 hst (fun w hst => ha w (hk.out w hst.keeps)) rfl rfl rfl rfl ?_; clear hst; intro w hst) | (refine kb 3 hst rfl rfl ?_; clear hst; intro b3 w hb3 hst) | (refine kl hst ta24 rfl ?_)); try simp only [pz, pn, sz, sc])
  refine bp_t rfl rfl (by rfl) ⟨?_, hst.keeps⟩
  rfl

theorem class_Fraction (f : Nat) (h1 : 1 ≤ f) (h4 : f ≤ 4) (m : Nat) (hm : m < 2 ^ fB f) (w0 : World) (hF : FmtIn w0) : GivesAt Tryz.prog 126 #[.int .i64 f, Wd m] (W (wFrac f m)) w0 := by
  have hst := St.start [] w0
  have hk := Lib.hid (fun w (k : Keeps [] w0 w) => hF.keep k (by simp))
  have ha := fun w h => ask_wide f h1 h4 m hm 155 gf155 _ w h (fun w' _ => (class_Fraction_1 f m).at w')
  clear hF hm
  generalize wFrac f m = x at *
  go_enter Tryz.func126, Tryz.ntmps126
  go_wp2_with ((first | (refine kg gf154 hst (fun w hst => ha w (hk.out w hst.keeps)) rfl rfl rfl rfl ?_; clear hst; intro w hst) | (refine kb 3 hst rfl rfl ?_; clear hst; intro b3 w hb3 hst) | (refine ka 4 hst tz44 rfl rfl ?_; clear hst; intro b4 w hb4 hst) | (refine kl hst ta24 rfl ?_) | (refine kt hst ta44 rfl rfl ?_; clear hst; intro w hst)); try simp only [pz, pn, sz, sc])
  refine bp_c rfl rfl (la hst ta44) ⟨?_, hst.keeps⟩
  rfl

/-- Does a word stand for a number? -/
def finB (f m : Nat) : Bool := decide (m < 2 ^ fB f) && decide (4 ≤ clsN f m)
theorem class_Finite (f : Nat) (h1 : 1 ≤ f) (h4 : f ≤ 4) (m : Nat) (hm2 : m < M2) (w0 : World) (hF : FmtIn w0) : GivesAt Tryz.prog 124 #[.int .i64 f, Wd m] (.bool (finB f m)) w0 := by
  have hst := St.start [] w0
  have hk := Lib.hid (fun w (k : Keeps [] w0 w) => hF.keep k (by simp))
  by_cases hm : m < 2 ^ fB f
  · have ha := fun w h => class_Of f h1 h4 m hm w h
    have e : finB f m = decide ((4 : Int) ≤ (clsN f m : Int)) := by
      unfold finB
      rw [decide_eq_true hm, Bool.true_and]
      exact decide_eq_decide.2 (by omega)
    rw [e]
    clear hF hm e
    generalize clsN f m = x at *
    go_enter Tryz.func124, Tryz.ntmps124
    go_wp2_with ((first | (refine kg gf151 hst (fun w hst => ha w (hk.out w hst.keeps)) rfl rfl rfl rfl ?_; clear hst; intro w hst) | (refine kb 3 hst rfl rfl ?_; clear hst; intro b3 w hb3 hst) | (refine kl hst ta24 rfl ?_)); try simp only [pz, pn, sz, sc])
    refine bp_t rfl rfl (by rfl) ⟨?_, hst.keeps⟩
    rfl
  · have ha := fun w h => class_Of_no f h1 h4 m hm2 hm w h
    have e : finB f m = false := by unfold finB; rw [decide_eq_false hm, Bool.false_and]
    rw [e]
    clear hF hm e
    go_enter Tryz.func124, Tryz.ntmps124
    go_wp2_with ((first | (refine kg gf151 hst (fun w hst => ha w (hk.out w hst.keeps)) rfl rfl rfl rfl ?_; clear hst; intro w hst) | (refine kb 3 hst rfl rfl ?_; clear hst; intro b3 w hb3 hst) | (refine kl hst ta24 rfl ?_)); try simp only [pz, pn, sz, sc])
    refine bp_t rfl rfl (by rfl) ⟨?_, hst.keeps⟩
    rfl

theorem class_Of_non (f : Int) (h : f < 1 ∨ 4 < f) (m : Nat) : Gives Tryz.prog 151 #[.int .i64 f, Wd m] (.int .i64 0) := by
  intro w0
  have hst := St.start [] w0
  have ha := fun g => ask_int_non f h m g
  clear h
  go_enter Tryz.func151, Tryz.ntmps151
  go_wp2_with ((first | (refine kf gf152 hst (ha _) rfl rfl rfl rfl ?_; clear hst; intro w hst) | (refine kb 3 hst rfl rfl ?_; clear hst; intro b3 w hb3 hst) | (refine kl hst ta24 rfl ?_)); try simp only [pz, pn, sz, sc])
  refine bp_t rfl rfl (by rfl) ⟨?_, hst.keeps⟩
  rfl

theorem class_Finite_non (f : Int) (h : f < 1 ∨ 4 < f) (m : Nat) : Gives Tryz.prog 124 #[.int .i64 f, Wd m] (.bool false) := by
  intro w0
  have hst := St.start [] w0
  have ha := class_Of_non f h m
  clear h
  go_enter Tryz.func124, Tryz.ntmps124
  go_wp2_with ((first | (refine kf gf151 hst (ha) rfl rfl rfl rfl ?_; clear hst; intro w hst) | (refine kb 3 hst rfl rfl ?_; clear hst; intro b3 w hb3 hst) | (refine kl hst ta24 rfl ?_)); try simp only [pz, pn, sz, sc])
  refine bp_t rfl rfl (by rfl) ⟨?_, hst.keeps⟩
  rfl

end Go.Proofs.YtefpoconpeggpaaGreatDoor.Rd

namespace Go.Proofs.YtefpoconpeggpaaGreatDoor.Rd
open Go Go.RowKit
set_option linter.unusedVariables false
set_option linter.unusedSimpArgs false
set_option maxRecDepth 100000

/-- A finite word's exponent. -/
def wExp (f m : Nat) : Int := ((wField f m - 1 : Nat) : Int) + (1 - (fE f : Int)) - fP f + 1
theorem wField_lt (f m : Nat) : wField f m < 32768 := Nat.lt_of_lt_of_le (Nat.mod_lt _ (Nat.pow_pos (by omega))) (Nat.le_trans (Nat.pow_le_pow_right (by omega) (fK_in f).2) (by decide))

set_option maxHeartbeats 4000000 in
theorem unpack_made (f : Nat) (h1 : 1 ≤ f) (h4 : f ≤ 4) (m : Nat) (hm : m < 2 ^ fB f) (hfin : finB f m = true) (g : FuncId) (hg : GoF Tryz.prog g) (r : Array Value) (bo : Bool) (hr1 : r.size = 10) (hr2 : OneC r) (w0 : World) (hF : FmtIn w0)
    (hgv : ∀ w, Keeps [] w0 w → GivesAt Tryz.prog g #[.agg (fmC f), .agg (nbC (wNeg f m) (wExp f m) (wSig f m))] (.tuple #[.agg r, .bool bo]) w) : GivesAt Tryz.prog 101 #[.int .i64 f, Wd m, .func (.func g) #[] #[]] (.tuple #[.agg r, .bool bo]) w0 := by
  have hst := St.start [] w0
  have hk := Lib.hid (fun w (k : Keeps [] w0 w) => hF.keep k (by simp))
  have hm2 : m < M2 := Nat.lt_of_lt_of_le hm (by
    have := (fB_in f).2
    exact Nat.pow_le_pow_right (by omega) this)
  have hfi := fun w h => class_Finite f h1 h4 m hm2 w h
  rw [hfin] at hfi
  have hof := fun w h => format_Of f h1 h4 w h
  have hfd := fun w h => class_Field f h1 h4 m hm w h
  have hfr := fun w h => class_Fraction f h1 h4 m hm w h
  have hng := fun w h => class_Neg f h1 h4 m hm w h
  have hP := fP_in f
  have hE := fE_in f
  have hl := wField_lt f m
  have hfl := wFrac_lt f m
  have z1 := fmC_size f
  have z2 := fmC_one f
  have g1 : (fmC f)[0 + 1]? = some (.int .i64 (fP f : Nat)) := rfl
  have g3 : (fmC f)[0 + 3]? = some (.int .i64 (1 - (fE f : Int))) := rfl
  have hw1 : IntKind.i64.wrap ((fP f : Int) - 1) = (fP f : Int) - 1 := by rw [IntKind.wrap_i64]; omega
  have hgv' := Lib.hid hgv
  unfold nbC at hgv'
  by_cases h0 : wField f m = 0
  · have e1 : wSig f m = wFrac f m := by unfold wSig; rw [if_pos h0]
    have e2 : wExp f m = 0 + (1 - (fE f : Int)) - fP f + 1 := by unfold wExp; rw [h0]; rfl
    have W1 : IntKind.i64.wrap (0 + (1 - (fE f : Int))) = 0 + (1 - (fE f : Int)) := by rw [IntKind.wrap_i64]; omega
    have W2 : IntKind.i64.wrap (0 + (1 - (fE f : Int)) - fP f) = 0 + (1 - (fE f : Int)) - fP f := by rw [IntKind.wrap_i64]; omega
    have W3 : IntKind.i64.wrap (0 + (1 - (fE f : Int)) - fP f + 1) = 0 + (1 - (fE f : Int)) - fP f + 1 := by rw [IntKind.wrap_i64]; omega
    have V1 : IntKind.i64.wrap (1 - (fE f : Int)) = 1 - (fE f : Int) := by rw [IntKind.wrap_i64]; omega
    have V2 : IntKind.i64.wrap (1 - (fE f : Int) - fP f) = 1 - (fE f : Int) - fP f := by rw [IntKind.wrap_i64]; omega
    have V3 : IntKind.i64.wrap (1 - (fE f : Int) - fP f + 1) = 1 - (fE f : Int) - fP f + 1 := by rw [IntKind.wrap_i64]; omega
    rw [e1, e2, Int.zero_add] at hgv'
    rw [h0, show ((0 : Nat) : Int) = 0 from rfl] at hfd
    clear hF hm hm2 hgv e1 e2 h0 hl hfl hfin
    generalize wFrac f m = fr at *
    generalize wNeg f m = ng at *
    generalize fmC f = cs at *
    go_enter Tryz.func101, Tryz.ntmps101
    go_wp2_with ((first | (refine kg gf124 hst (fun w hst => hfi w (hk.out w hst.keeps)) rfl rfl rfl rfl ?_; clear hst; intro w hst) | (refine kg gf70 hst (fun w hst => hof w (hk.out w hst.keeps)) rfl rfl rfl rfl ?_; clear hst; intro w hst) | (refine kb 4 hst rfl rfl ?_; clear hst; intro b4 w hb4 hst) | (refine ka 6 hst tz46 rfl rfl ?_; clear hst; intro b6 w hb6 hst) | (refine kl hst ta24 rfl ?_) | (refine ka 8 hst tz128 rfl rfl ?_; clear hst; intro b8 w hb8 hst) | (refine kt hst ta128 rfl rfl ?_; clear hst; intro w hst)); try simp only [pz, pn, sz, sc])
    refine wp_region_T 8  hst (by kernel_rfl) ?_; clear hst; intro w hst; (try simp only [List.length_cons, List.length_nil, Nat.reduceAdd, Array.replicate_succ, Array.replicate_zero, List.push_toArray, List.nil_append, List.cons_append])
    refine r0 0 ?_; simp only [pz, pn, sz, sc]
    refine r0 3 ?_; simp only [pz, pn, sz, sc]
    refine rl 1 rfl ?_ (by first | exact ylA ta24 | exact ylM ta24); simp only [pz, pn, sz, sc]
    refine rl 4 rfl ?_ (by first | exact ylA ta24 | exact ylM ta24); simp only [pz, pn, sz, sc]
    refine r2 2 6 ?_ ?_
    (refine kg gf125 hst (fun w hst => hfd w (hk.out w hst.keeps)) rfl rfl rfl rfl ?_; clear hst; intro w hst); (try simp only [pz, pn, sz, sc]); refine re ?_
    refine r2 5 6 ?_ ?_
    (refine kg gf126 hst (fun w hst => hfr w (hk.out w hst.keeps)) rfl rfl rfl rfl ?_; clear hst; intro w hst); (try simp only [pz, pn, sz, sc]); refine re ?_
    refine r1 6 ?_; (refine ka 11 hst tz44 rfl rfl ?_; clear hst; intro b11 w hb11 hst); (try simp only [pz, pn, sz, sc]); refine re ?_
    refine r0 7 ?_; simp only [pz, pn, sz, sc]
    refine r1 8 ?_; (refine kt hst ta44 rfl rfl ?_; clear hst; intro w hst); (try simp only [pz, pn, sz, sc]); refine re ?_
    refine rd_ ?_
    rotate_left 1
    (refine ka 11 hst tz44 rfl rfl ?_; clear hst; intro b11 w hb11 hst); (try simp only [pz, pn, sz, sc]); refine re ?_
    refine r1 5 ?_; (refine kg gf126 hst (fun w hst => hfr w (hk.out w hst.keeps)) rfl rfl rfl rfl ?_; clear hst; intro w hst); (try simp only [pz, pn, sz, sc]); refine re ?_
    refine r0 7 ?_; simp only [pz, pn, sz, sc]
    refine r1 8 ?_; (refine kt hst ta44 rfl rfl ?_; clear hst; intro w hst); (try simp only [pz, pn, sz, sc]); refine re ?_
    refine rd_ ?_
    rotate_right 1
    rotate_left 2
    (refine ka 11 hst tz44 rfl rfl ?_; clear hst; intro b11 w hb11 hst); (try simp only [pz, pn, sz, sc]); refine re ?_
    refine r1 2 ?_; (refine kg gf125 hst (fun w hst => hfd w (hk.out w hst.keeps)) rfl rfl rfl rfl ?_; clear hst; intro w hst); (try simp only [pz, pn, sz, sc]); refine re ?_
    refine r1 5 ?_; (refine kg gf126 hst (fun w hst => hfr w (hk.out w hst.keeps)) rfl rfl rfl rfl ?_; clear hst; intro w hst); (try simp only [pz, pn, sz, sc]); refine re ?_
    refine r0 7 ?_; simp only [pz, pn, sz, sc]
    refine r1 8 ?_; (refine kt hst ta44 rfl rfl ?_; clear hst; intro w hst); (try simp only [pz, pn, sz, sc]); refine re ?_
    refine rd_ ?_
    rotate_right 2
    all_goals
      go_wp2_with fail
      refine wp_region_T 18  hst (by kernel_rfl) ?_; clear hst; intro w hst; (try simp only [List.length_cons, List.length_nil, Nat.reduceAdd, Array.replicate_succ, Array.replicate_zero, List.push_toArray, List.nil_append, List.cons_append])
      refine r0 0 ?_; simp only [pz, pn, sz, sc, W1, W2, W3, V1, V2, V3, Int.zero_add]
      refine r0 2 ?_; simp only [pz, pn, sz, sc, W1, W2, W3, V1, V2, V3, Int.zero_add]
      refine r0 5 ?_; simp only [pz, pn, sz, sc, W1, W2, W3, V1, V2, V3, Int.zero_add]
      refine r0 6 ?_; simp only [pz, pn, sz, sc, W1, W2, W3, V1, V2, V3, Int.zero_add]
      refine r0 9 ?_; simp only [pz, pn, sz, sc, W1, W2, W3, V1, V2, V3, Int.zero_add]
      refine rl 1 rfl ?_ (by first | exact ylA ta128 | exact ylM ta128); simp only [pz, pn, sz, sc, W1, W2, W3, V1, V2, V3, Int.zero_add]
      refine rl 3 rfl ?_ (by first | exact ylA ta24 | exact ylM ta24); simp only [pz, pn, sz, sc, W1, W2, W3, V1, V2, V3, Int.zero_add]
      refine rl 7 rfl ?_ (ylC tc3); simp only [pz, pn, sz, sc, W1, W2, W3, V1, V2, V3, Int.zero_add]
      refine r0 8 ?_; simp only [pz, pn, sz, sc, W1, W2, W3, V1, V2, V3, Int.zero_add]
      refine rl 10 rfl ?_ (ylC tc3); simp only [pz, pn, sz, sc, W1, W2, W3, V1, V2, V3, Int.zero_add]
      refine r0 11 ?_; simp only [pz, pn, sz, sc, W1, W2, W3, V1, V2, V3, Int.zero_add]
      refine r0 12 ?_; simp only [pz, pn, sz, sc, W1, W2, W3, V1, V2, V3, Int.zero_add]
      refine rl 13 rfl ?_ (by first | exact ylA ta44 | exact ylM ta44); simp only [pz, pn, sz, sc, W1, W2, W3, V1, V2, V3, Int.zero_add]
      refine r1 4 ?_; (refine kg gf128 hst (fun w hst => hng w (hk.out w hst.keeps)) rfl rfl rfl rfl ?_; clear hst; intro w hst); (try simp only [pz, pn, sz, sc, W1, W2, W3, V1, V2, V3, Int.zero_add]); refine re ?_
      refine r0 14 ?_ (hy := yB (tb46_012 _ _ _)); simp only [pz, pn, sz, sc, W1, W2, W3, V1, V2, V3, Int.zero_add]
      refine r1 15 ?_; (refine kg hg hst (fun w hst => hgv'.out w hst.keeps) rfl rfl rfl rfl ?_; clear hst; intro w hst); (try simp only [pz, pn, sz, sc, W1, W2, W3, V1, V2, V3, Int.zero_add]); refine re ?_
      refine r0 16 ?_; simp only [pz, pn, sz, sc, W1, W2, W3, V1, V2, V3, Int.zero_add]
      refine r0 17 ?_; simp only [pz, pn, sz, sc, W1, W2, W3, V1, V2, V3, Int.zero_add]
      refine r1 18 ?_; (refine kt hst ta46 rfl rfl ?_; clear hst; intro w hst); (try simp only [pz, pn, sz, sc, W1, W2, W3, V1, V2, V3, Int.zero_add]); refine re ?_
      refine r0 19 ?_; simp only [pz, pn, sz, sc, W1, W2, W3, V1, V2, V3, Int.zero_add]
      refine rd_ ?_
      all_goals
        go_wp2_with fail
        refine bp_ct rfl rfl (la hst ta46) (by rfl) ⟨?_, hst.keeps⟩
        rfl
  · have e1 : wSig f m = wFrac f m + 2 ^ (fP f - 1) := by unfold wSig; rw [if_neg h0]
    obtain ⟨d, hd⟩ : ∃ d, wField f m = d + 1 := ⟨wField f m - 1, by omega⟩
    have e2 : wExp f m = (d : Int) + (1 - (fE f : Int)) - fP f + 1 := by unfold wExp; rw [hd]; rfl
    have hpM : 2 ^ (fP f - 1) < M := small_M2 _ (by omega)
    have hpw := wide_Power ((fP f : Int) - 1)
    have hp2 : pow2 ((fP f : Int) - 1) = 2 ^ (fP f - 1) := by
      unfold pow2
      rw [if_pos (by omega)]
      congr 1; omega
    rw [hp2] at hpw
    have hsg : wFrac f m + 2 ^ (fP f - 1) < M := by
      have := small_M2 (fP f) (by omega)
      have e : 2 ^ fP f = 2 ^ (fP f - 1) + 2 ^ (fP f - 1) := by
        obtain ⟨p, hp⟩ : ∃ p, fP f = p + 1 := ⟨fP f - 1, by omega⟩
        rw [hp, Nat.add_sub_cancel, Nat.pow_succ]; omega
      omega
    have hadd := wide_Add (wFrac f m) (2 ^ (fP f - 1)) (by omega) hpM
    rw [Nat.mod_eq_of_lt hsg] at hadd
    have W1 : IntKind.i64.wrap ((d : Int) + (1 - (fE f : Int))) = (d : Int) + (1 - (fE f : Int)) := by rw [IntKind.wrap_i64]; omega
    have W2 : IntKind.i64.wrap ((d : Int) + (1 - (fE f : Int)) - fP f) = (d : Int) + (1 - (fE f : Int)) - fP f := by rw [IntKind.wrap_i64]; omega
    have W3 : IntKind.i64.wrap ((d : Int) + (1 - (fE f : Int)) - fP f + 1) = (d : Int) + (1 - (fE f : Int)) - fP f + 1 := by rw [IntKind.wrap_i64]; omega
    rw [e1, e2] at hgv'
    rw [hd, show ((d + 1 : Nat) : Int) = (d : Int) + 1 by omega] at hfd
    have hd0 : (0 : Int) < (d : Int) + 1 := by omega
    have hdl : d < 32768 := by omega
    clear hF hm hm2 hgv e1 e2 h0 hl hfl hfin hd hpM hp2 hsg
    generalize wFrac f m + 2 ^ (fP f - 1) = sg at *
    generalize 2 ^ (fP f - 1) = pw at *
    generalize wFrac f m = fr at *
    generalize wNeg f m = ng at *
    generalize fmC f = cs at *
    go_enter Tryz.func101, Tryz.ntmps101
    go_wp2_with ((first | (refine kg gf124 hst (fun w hst => hfi w (hk.out w hst.keeps)) rfl rfl rfl rfl ?_; clear hst; intro w hst) | (refine kg gf70 hst (fun w hst => hof w (hk.out w hst.keeps)) rfl rfl rfl rfl ?_; clear hst; intro w hst) | (refine kb 4 hst rfl rfl ?_; clear hst; intro b4 w hb4 hst) | (refine ka 6 hst tz46 rfl rfl ?_; clear hst; intro b6 w hb6 hst) | (refine kl hst ta24 rfl ?_) | (refine ka 8 hst tz128 rfl rfl ?_; clear hst; intro b8 w hb8 hst) | (refine kt hst ta128 rfl rfl ?_; clear hst; intro w hst)); try simp only [pz, pn, sz, sc])
    refine wp_region_T 8  hst (by kernel_rfl) ?_; clear hst; intro w hst; (try simp only [List.length_cons, List.length_nil, Nat.reduceAdd, Array.replicate_succ, Array.replicate_zero, List.push_toArray, List.nil_append, List.cons_append])
    refine r0 0 ?_; simp only [pz, pn, sz, sc]
    refine r0 3 ?_; simp only [pz, pn, sz, sc]
    refine rl 1 rfl ?_ (by first | exact ylA ta24 | exact ylM ta24); simp only [pz, pn, sz, sc]
    refine rl 4 rfl ?_ (by first | exact ylA ta24 | exact ylM ta24); simp only [pz, pn, sz, sc]
    refine r2 2 6 ?_ ?_
    (refine kg gf125 hst (fun w hst => hfd w (hk.out w hst.keeps)) rfl rfl rfl rfl ?_; clear hst; intro w hst); (try simp only [pz, pn, sz, sc]); refine re ?_
    refine r2 5 6 ?_ ?_
    (refine kg gf126 hst (fun w hst => hfr w (hk.out w hst.keeps)) rfl rfl rfl rfl ?_; clear hst; intro w hst); (try simp only [pz, pn, sz, sc]); refine re ?_
    refine r1 6 ?_; (refine ka 11 hst tz44 rfl rfl ?_; clear hst; intro b11 w hb11 hst); (try simp only [pz, pn, sz, sc]); refine re ?_
    refine r0 7 ?_; simp only [pz, pn, sz, sc]
    refine r1 8 ?_; (refine kt hst ta44 rfl rfl ?_; clear hst; intro w hst); (try simp only [pz, pn, sz, sc]); refine re ?_
    refine rd_ ?_
    rotate_left 1
    (refine ka 11 hst tz44 rfl rfl ?_; clear hst; intro b11 w hb11 hst); (try simp only [pz, pn, sz, sc]); refine re ?_
    refine r1 5 ?_; (refine kg gf126 hst (fun w hst => hfr w (hk.out w hst.keeps)) rfl rfl rfl rfl ?_; clear hst; intro w hst); (try simp only [pz, pn, sz, sc]); refine re ?_
    refine r0 7 ?_; simp only [pz, pn, sz, sc]
    refine r1 8 ?_; (refine kt hst ta44 rfl rfl ?_; clear hst; intro w hst); (try simp only [pz, pn, sz, sc]); refine re ?_
    refine rd_ ?_
    rotate_right 1
    rotate_left 2
    (refine ka 11 hst tz44 rfl rfl ?_; clear hst; intro b11 w hb11 hst); (try simp only [pz, pn, sz, sc]); refine re ?_
    refine r1 2 ?_; (refine kg gf125 hst (fun w hst => hfd w (hk.out w hst.keeps)) rfl rfl rfl rfl ?_; clear hst; intro w hst); (try simp only [pz, pn, sz, sc]); refine re ?_
    refine r1 5 ?_; (refine kg gf126 hst (fun w hst => hfr w (hk.out w hst.keeps)) rfl rfl rfl rfl ?_; clear hst; intro w hst); (try simp only [pz, pn, sz, sc]); refine re ?_
    refine r0 7 ?_; simp only [pz, pn, sz, sc]
    refine r1 8 ?_; (refine kt hst ta44 rfl rfl ?_; clear hst; intro w hst); (try simp only [pz, pn, sz, sc]); refine re ?_
    refine rd_ ?_
    rotate_right 2
    all_goals
      go_wp2_with fail
      refine wp_region_T 9  hst (by kernel_rfl) ?_; clear hst; intro w hst; (try simp only [List.length_cons, List.length_nil, Nat.reduceAdd, Array.replicate_succ, Array.replicate_zero, List.push_toArray, List.nil_append, List.cons_append])
      refine r0 1 ?_; simp only [pz, pn, sz, sc, hw1]
      refine rl 0 rfl ?_ (by first | exact ylA ta44 | exact ylM ta44); simp only [pz, pn, sz, sc, hw1]
      refine rl 2 rfl ?_ (ylC tc3); simp only [pz, pn, sz, sc, hw1]
      refine r0 3 ?_; simp only [pz, pn, sz, sc, hw1]
      refine r1 4 ?_; (refine kf gf127 hst (hpw) rfl rfl rfl rfl ?_; clear hst; intro w hst); (try simp only [pz, pn, sz, sc, hw1]); refine re ?_
      refine r1 5 ?_; (refine kf gf104 hst (hadd) rfl rfl rfl rfl ?_; clear hst; intro w hst); (try simp only [pz, pn, sz, sc, hw1]); refine re ?_
      refine r0 6 ?_; simp only [pz, pn, sz, sc, hw1]
      refine r0 7 ?_; simp only [pz, pn, sz, sc, hw1]
      refine r0 8 ?_; simp only [pz, pn, sz, sc, hw1]
      refine r1 9 ?_; (refine kt hst ta44 rfl rfl ?_; clear hst; intro w hst); (try simp only [pz, pn, sz, sc, hw1]); refine re ?_
      refine rd_ ?_
      all_goals
        go_wp2_with fail
        refine wp_region_T 18  hst (by kernel_rfl) ?_; clear hst; intro w hst; (try simp only [List.length_cons, List.length_nil, Nat.reduceAdd, Array.replicate_succ, Array.replicate_zero, List.push_toArray, List.nil_append, List.cons_append])
        refine r0 0 ?_; simp only [pz, pn, sz, sc, W1, W2, W3]
        refine r0 2 ?_; simp only [pz, pn, sz, sc, W1, W2, W3]
        refine r0 5 ?_; simp only [pz, pn, sz, sc, W1, W2, W3]
        refine r0 6 ?_; simp only [pz, pn, sz, sc, W1, W2, W3]
        refine r0 9 ?_; simp only [pz, pn, sz, sc, W1, W2, W3]
        refine rl 1 rfl ?_ (by first | exact ylA ta128 | exact ylM ta128); simp only [pz, pn, sz, sc, W1, W2, W3]
        refine rl 3 rfl ?_ (by first | exact ylA ta24 | exact ylM ta24); simp only [pz, pn, sz, sc, W1, W2, W3]
        refine rl 7 rfl ?_ (ylC tc3); simp only [pz, pn, sz, sc, W1, W2, W3]
        refine r0 8 ?_; simp only [pz, pn, sz, sc, W1, W2, W3]
        refine rl 10 rfl ?_ (ylC tc3); simp only [pz, pn, sz, sc, W1, W2, W3]
        refine r0 11 ?_; simp only [pz, pn, sz, sc, W1, W2, W3]
        refine r0 12 ?_; simp only [pz, pn, sz, sc, W1, W2, W3]
        refine rl 13 rfl ?_ (by first | exact ylA ta44 | exact ylM ta44); simp only [pz, pn, sz, sc, W1, W2, W3]
        refine r1 4 ?_; (refine kg gf128 hst (fun w hst => hng w (hk.out w hst.keeps)) rfl rfl rfl rfl ?_; clear hst; intro w hst); (try simp only [pz, pn, sz, sc, W1, W2, W3]); refine re ?_
        refine r0 14 ?_ (hy := yB (tb46_012 _ _ _)); simp only [pz, pn, sz, sc, W1, W2, W3]
        refine r1 15 ?_; (refine kg hg hst (fun w hst => hgv'.out w hst.keeps) rfl rfl rfl rfl ?_; clear hst; intro w hst); (try simp only [pz, pn, sz, sc, W1, W2, W3]); refine re ?_
        refine r0 16 ?_; simp only [pz, pn, sz, sc, W1, W2, W3]
        refine r0 17 ?_; simp only [pz, pn, sz, sc, W1, W2, W3]
        refine r1 18 ?_; (refine kt hst ta46 rfl rfl ?_; clear hst; intro w hst); (try simp only [pz, pn, sz, sc, W1, W2, W3]); refine re ?_
        refine r0 19 ?_; simp only [pz, pn, sz, sc, W1, W2, W3]
        refine rd_ ?_
        all_goals
          go_wp2_with fail
          refine bp_ct rfl rfl (la hst ta46) (by rfl) ⟨?_, hst.keeps⟩
          rfl

theorem nbC_zero : nbC false 0 0 = #[.bool false, .int .i64 0, .int .u64 0, .int .u64 0, .int .u64 0, .int .u64 0, .int .u64 0, .int .u64 0, .int .u64 0, .int .u64 0] := by kernel_rfl

theorem unpack_made_no (f : Nat) (h1 : 1 ≤ f) (h4 : f ≤ 4) (m : Nat) (hm2 : m < M2) (hfin : finB f m = false) (g : Value) (w0 : World) (hF : FmtIn w0) : GivesAt Tryz.prog 101 #[.int .i64 f, Wd m, g] (.tuple #[.agg (nbC false 0 0), .bool false]) w0 := by
  have hst := St.start [] w0
  have hk := Lib.hid (fun w (k : Keeps [] w0 w) => hF.keep k (by simp))
  have hfi := fun w h => class_Finite f h1 h4 m hm2 w h
  rw [hfin] at hfi
  clear hF hfin
  go_enter Tryz.func101, Tryz.ntmps101
  go_wp2_with ((first | (refine kg gf124 hst (fun w hst => hfi w (hk.out w hst.keeps)) rfl rfl rfl rfl ?_; clear hst; intro w hst) | (refine kb 4 hst rfl rfl ?_; clear hst; intro b4 w hb4 hst) | (refine ka 6 hst tz46 rfl rfl ?_; clear hst; intro b6 w hb6 hst) | (refine kl hst ta24 rfl ?_) | (refine kt hst ta46 rfl rfl ?_; clear hst; intro w hst)); try simp only [pz, pn, sz, sc])
  refine bp_ct rfl rfl (la hst ta46) (by rfl) ⟨?_, hst.keeps⟩
  rw [nbC_zero]; rfl

theorem unpack_made_non (f : Int) (h : f < 1 ∨ 4 < f) (m : Nat) (g : Value) : Gives Tryz.prog 101 #[.int .i64 f, Wd m, g] (.tuple #[.agg (nbC false 0 0), .bool false]) := by
  intro w0
  have hst := St.start [] w0
  have hfi := class_Finite_non f h m
  clear h
  go_enter Tryz.func101, Tryz.ntmps101
  go_wp2_with ((first | (refine kf gf124 hst (hfi) rfl rfl rfl rfl ?_; clear hst; intro w hst) | (refine kb 4 hst rfl rfl ?_; clear hst; intro b4 w hb4 hst) | (refine ka 6 hst tz46 rfl rfl ?_; clear hst; intro b6 w hb6 hst) | (refine kl hst ta24 rfl ?_) | (refine kt hst ta46 rfl rfl ?_; clear hst; intro w hst)); try simp only [pz, pn, sz, sc])
  refine bp_ct rfl rfl (la hst ta46) (by rfl) ⟨?_, hst.keeps⟩
  rw [nbC_zero]; rfl

theorem unpack_Unpack_1 (f : Nat) (ng : Bool) (e : Int) (n : Nat) (he1 : -100000 ≤ e) (he2 : e ≤ 100000) (hn : n ≠ 0) (hnP : n < 2 ^ fP f) : Gives Tryz.prog 102 #[.agg (fmC f), .agg (nbC ng e n)] (.tuple #[.agg (nbC ng (e - (fP f - bl n : Nat)) (n * 2 ^ (fP f - bl n))), .bool true]) := by
  intro w0
  have hst := St.start [] w0
  have hP := fP_in f
  have hnM : n < M := Nat.lt_trans hnP (small_M2 _ (by omega))
  have hlen := wide_Len n hnM
  have hbl : bl n ≤ fP f := bl_le.2 hnP
  have hlt : n * 2 ^ (fP f - bl n) < M := by
    have a := (bl_spec n).1
    have := Nat.mul_lt_mul_of_pos_right a (show 0 < 2 ^ (fP f - bl n) from Nat.pow_pos (by omega))
    rw [← Nat.pow_add, show bl n + (fP f - bl n) = fP f by omega] at this
    exact Nat.lt_trans this (small_M2 _ (by omega))
  have hshl := wide_Shl n (fP f - bl n : Nat) hnM
  rw [clampN_nat _ (by omega), Nat.mod_eq_of_lt hlt] at hshl
  have c1 : ((fP f - bl n : Nat) : Int) = (fP f : Int) - (bl n : Int) := by omega
  rw [c1] at hshl ⊢
  have hW1 : IntKind.i64.wrap ((fP f : Int) - (bl n : Int)) = (fP f : Int) - (bl n : Int) := by rw [IntKind.wrap_i64]; omega
  have hW2 : IntKind.i64.wrap (e - ((fP f : Int) - (bl n : Int))) = e - ((fP f : Int) - (bl n : Int)) := by rw [IntKind.wrap_i64]; omega
  have Q0 : decide (n = 0) = false := by simpa using hn
  have hM := M_pos
  have z1 := fmC_size f
  have z2 := fmC_one f
  have g1 : (fmC f)[0 + 1]? = some (.int .i64 (fP f : Nat)) := rfl
  unfold nbC
  have y1 : (#[Value.bool ng, .int .i64 e] ++ wc 8 n).size = 10 := by simp
  have y2 : OneC (#[Value.bool ng, .int .i64 e] ++ wc 8 n) := nbC_one ng e n
  generalize n * 2 ^ (fP f - bl n) = n2 at *
  generalize bl n = k at *
  generalize fP f = p at *
  generalize fmC f = cs at *
  clear hlt c1 hnP hn
  go_enter Tryz.func102, Tryz.ntmps102
  go_wp2_with ((first | (refine klm hst ta44 rfl ?_ (hc := part1 2 _ _ _ rfl rfl)) | (refine kb 2 hst rfl rfl ?_; clear hst; intro b2 w hb2 hst) | (refine kb 3 hst rfl rfl ?_; clear hst; intro b3 w hb3 hst) | (refine ka 4 hst tz46 rfl rfl ?_; clear hst; intro b4 w hb4 hst) | (refine ke tr44 tc22 rfl ?_)); try simp only [pz, pn, sz, sc])
  refine wp_region_T 7  hst (by kernel_rfl) ?_; clear hst; intro w hst; (try simp only [List.length_cons, List.length_nil, Nat.reduceAdd, Array.replicate_succ, Array.replicate_zero, List.push_toArray, List.nil_append, List.cons_append])
  refine r0 0 ?_; simp only [pz, pn, sz, sc, hW1]
  refine r0 2 ?_; simp only [pz, pn, sz, sc, hW1]
  refine rl 1 rfl ?_ (ylC tc3); simp only [pz, pn, sz, sc, hW1]
  refine rl 3 rfl ?_ (by first | exact ylA ta44 | exact ylM ta44); simp only [pz, pn, sz, sc, hW1]
  refine r1 4 ?_; (refine kf gf47 hst (hlen) rfl rfl rfl rfl ?_; clear hst; intro w hst); (try simp only [pz, pn, sz, sc, hW1]); refine re ?_
  refine r0 5 ?_; simp only [pz, pn, sz, sc, hW1]
  refine r0 6 ?_; simp only [pz, pn, sz, sc, hW1]
  refine rd_ ?_
  go_wp2_with fail
  refine wp_region_T 11  hst (by kernel_rfl) ?_; clear hst; intro w hst; (try simp only [List.length_cons, List.length_nil, Nat.reduceAdd, Array.replicate_succ, Array.replicate_zero, List.push_toArray, List.nil_append, List.cons_append])
  refine r0 0 ?_; simp only [pz, pn, sz, sc, hW2]
  refine r0 2 ?_; simp only [pz, pn, sz, sc, hW2]
  refine r0 4 ?_; simp only [pz, pn, sz, sc, hW2]
  refine r0 6 ?_; simp only [pz, pn, sz, sc, hW2]
  refine r0 8 ?_; simp only [pz, pn, sz, sc, hW2]
  refine rl 1 rfl ?_ (ylC tc4); simp only [pz, pn, sz, sc, hW2]
  refine rl 3 rfl ?_ (ylC tc3); simp only [pz, pn, sz, sc, hW2]
  refine r0 5 ?_; simp only [pz, pn, sz, sc, hW2]
  refine rl 7 rfl ?_ (by first | exact ylA ta44 | exact ylM ta44); simp only [pz, pn, sz, sc, hW2]
  refine r1 9 ?_; (refine kf gf48 hst (hshl) rfl rfl rfl rfl ?_; clear hst; intro w hst); (try simp only [pz, pn, sz, sc, hW2]); refine re ?_
  refine r0 10 ?_ (hy := yB (tb46_012 _ _ _)); simp only [pz, pn, sz, sc, hW2]
  refine r1 11 ?_; (refine kt hst ta46 rfl rfl ?_; clear hst; intro w hst); (try simp only [pz, pn, sz, sc, hW2]); refine re ?_
  refine r0 12 ?_; simp only [pz, pn, sz, sc, hW2]
  refine rd_ ?_
  all_goals
    go_wp2_with fail
    refine bp_ct rfl rfl (la hst ta46) (by rfl) ⟨?_, hst.keeps⟩
    rfl

theorem unpack_Unpack_0 (f : Nat) (ng : Bool) (e : Int) : Gives Tryz.prog 102 #[.agg (fmC f), .agg (nbC ng e 0)] (.tuple #[.agg (nbC false 0 0), .bool false]) := by
  intro w0
  have hst := St.start [] w0
  have z1 := fmC_size f
  have z2 := fmC_one f
  have Q0 : decide (0 = 0) = true := rfl
  have hM := M_pos
  rw [nbC_zero]
  unfold nbC
  have y1 : (#[Value.bool ng, .int .i64 e] ++ wc 8 0).size = 10 := by simp
  have y2 : OneC (#[Value.bool ng, .int .i64 e] ++ wc 8 0) := nbC_one ng e 0
  generalize fmC f = cs at *
  go_enter Tryz.func102, Tryz.ntmps102
  go_wp2_with ((first | (refine klm hst ta44 rfl ?_ (hc := part1 2 _ _ _ rfl rfl)) | (refine kb 2 hst rfl rfl ?_; clear hst; intro b2 w hb2 hst) | (refine kb 3 hst rfl rfl ?_; clear hst; intro b3 w hb3 hst) | (refine ka 4 hst tz46 rfl rfl ?_; clear hst; intro b4 w hb4 hst) | (refine ke tr44 tc22 rfl ?_) | (refine kt hst ta46 rfl rfl ?_; clear hst; intro w hst)); try simp only [pz, pn, sz, sc])
  refine bp_ct rfl rfl (la hst ta46) (by rfl) ⟨?_, hst.keeps⟩
  rfl

end Go.Proofs.YtefpoconpeggpaaGreatDoor.Rd
