/- What the layer class answers: the classes of words, their signs, fields, fractions. -/
import Derived.Test.YtefpoconpeggpaaGreatDoorL06
namespace Go.Proofs.YtefpoconpeggpaaGreatDoor.Rd
open Go Go.RowKit
set_option linter.unusedVariables false
set_option linter.unusedSimpArgs false
set_option maxRecDepth 100000

theorem mode_Is_yes (m : Int) (h1 : 1 ≤ m) (h5 : m ≤ 5) : Gives Tryz.prog 62 #[.int .i64 m] (.bool true) := by
  intro w0
  have hst := St.start [] w0
  have h6 : m < 6 := by omega
  go_enter Tryz.func62, Tryz.ntmps62
  go_wp2_with fail
  refine bp_t rfl rfl (by rfl) ⟨?_, hst.keeps⟩
  rfl

/-- A number's cells. -/
def nbC (neg : Bool) (e : Int) (n : Nat) : Array Value := #[.bool neg, .int .i64 e] ++ wc 8 n
theorem nbC_size (neg : Bool) (e : Int) (n : Nat) : (nbC neg e n).size = 10 := by simp [nbC]
theorem nbC_one (neg : Bool) (e : Int) (n : Nat) : OneC (nbC neg e n) := ⟨by unfold nbC; rw [Array.all_append, wc_one]; simp [Value.oneCell']⟩
theorem nbC_0 (neg : Bool) (e : Int) (n : Nat) : (nbC neg e n)[0]? = some (.bool neg) := by unfold nbC; exact pre_get (cells_get rfl)
theorem nbC_1 (neg : Bool) (e : Int) (n : Nat) : (nbC neg e n)[0 + 1]? = some (.int .i64 e) := by unfold nbC; exact pre_get (cells_get rfl)

theorem unpack_Right (neg : Bool) (e : Int) (n : Nat) (h1 : -1048576 ≤ e) (h2 : e ≤ 1048576) : Gives Tryz.prog 85 #[.agg (nbC neg e n)] (.bool true) := by
  intro w0
  have hst := St.start [] w0
  have z1 := nbC_size neg e n
  have z2 := nbC_one neg e n
  have g1 := nbC_1 neg e n
  generalize nbC neg e n = cs at *
  go_enter Tryz.func85, Tryz.ntmps85
  go_wp2_with ((first | (refine wl_guard (by rfl) ?_) | (refine kb 1 hst rfl rfl ?_; clear hst; intro b1 w hb1 hst) | (refine kc hst tc3 rfl ?_)); try simp only [pz, pn, sz, sc])
  refine bp_t rfl rfl (by rfl) ⟨?_, hst.keeps⟩
  rfl

theorem pack_flagged (b : Bool) (k : Int) : Gives Tryz.prog 99 #[.bool b, .int .i64 k] (.int .i64 (if b then k else 0)) := by
  intro w0
  have hst := St.start [] w0
  cases b
  · go_enter Tryz.func99, Tryz.ntmps99
    go_wp2_with fail
    refine bp_t rfl rfl (by rfl) ⟨?_, hst.keeps⟩
    rfl
  · go_enter Tryz.func99, Tryz.ntmps99
    go_wp2_with fail
    refine bp_t rfl rfl (by rfl) ⟨?_, hst.keeps⟩
    rfl

theorem ref05_Prec (f : Nat) (h1 : 1 ≤ f) (h4 : f ≤ 4) : Gives Tryz.prog 25 #[.int .i64 f] (.int .i64 (fP f : Nat)) := by
  intro w0
  have hst := St.start [] w0
  obtain rfl | rfl | rfl | rfl : f = 1 ∨ f = 2 ∨ f = 3 ∨ f = 4 := by omega
  · rw [show ((1 : Nat) : Int) = 1 from rfl, show ((fP 1 : Nat) : Int) = 11 by kernel_rfl]
    go_enter Tryz.func25, Tryz.ntmps25
    go_wp2_with fail
    refine bp_t rfl rfl (by rfl) ⟨?_, hst.keeps⟩
    rfl
  · rw [show ((2 : Nat) : Int) = 2 from rfl, show ((fP 2 : Nat) : Int) = 24 by kernel_rfl]
    go_enter Tryz.func25, Tryz.ntmps25
    go_wp2_with fail
    refine bp_t rfl rfl (by rfl) ⟨?_, hst.keeps⟩
    rfl
  · rw [show ((3 : Nat) : Int) = 3 from rfl, show ((fP 3 : Nat) : Int) = 53 by kernel_rfl]
    go_enter Tryz.func25, Tryz.ntmps25
    go_wp2_with fail
    refine bp_t rfl rfl (by rfl) ⟨?_, hst.keeps⟩
    rfl
  · rw [show ((4 : Nat) : Int) = 4 from rfl, show ((fP 4 : Nat) : Int) = 113 by kernel_rfl]
    go_enter Tryz.func25, Tryz.ntmps25
    go_wp2_with fail
    refine bp_t rfl rfl (by rfl) ⟨?_, hst.keeps⟩
    rfl

theorem ref05_Prec_no (f : Int) (h : f < 1 ∨ 4 < f) : Gives Tryz.prog 25 #[.int .i64 f] (.int .i64 0) := by
  intro w0
  have hst := St.start [] w0
  have q1 : (f == 1) = false := by simp; omega
  have q2 : (f == 2) = false := by simp; omega
  have q3 : (f == 3) = false := by simp; omega
  have q4 : (f == 4) = false := by simp; omega
  clear h
  go_enter Tryz.func25, Tryz.ntmps25
  go_wp2_with fail
  refine bp_t rfl rfl (by rfl) ⟨?_, hst.keeps⟩
  rfl

theorem ref05_Is (f : Nat) (h1 : 1 ≤ f) (h4 : f ≤ 4) : Gives Tryz.prog 100 #[.int .i64 f] (.bool true) := by
  intro w0
  have hst := St.start [] w0
  have hp := ref05_Prec f h1 h4
  have h0 := (fP_in f).1
  have h0' : 0 < fP f := by omega
  clear h0
  generalize fP f = p at *
  go_enter Tryz.func100, Tryz.ntmps100
  go_wp2_with ((first | (refine kf gf25 hst (hp) rfl rfl rfl rfl ?_; clear hst; intro w hst)); try simp only [pz, pn, sz, sc])
  refine bp_t rfl rfl (by rfl) ⟨?_, hst.keeps⟩
  rfl

theorem ref05_Is_no (f : Int) (h : f < 1 ∨ 4 < f) : Gives Tryz.prog 100 #[.int .i64 f] (.bool false) := by
  intro w0
  have hst := St.start [] w0
  have hp := ref05_Prec_no f h
  clear h
  go_enter Tryz.func100, Tryz.ntmps100
  go_wp2_with ((first | (refine kf gf25 hst (hp) rfl rfl rfl rfl ?_; clear hst; intro w hst)); try simp only [pz, pn, sz, sc])
  refine bp_t rfl rfl (by rfl) ⟨?_, hst.keeps⟩
  rfl

end Go.Proofs.YtefpoconpeggpaaGreatDoor.Rd

namespace Go.Proofs.YtefpoconpeggpaaGreatDoor.Rd
open Go Go.RowKit
set_option linter.unusedVariables false
set_option linter.unusedSimpArgs false
set_option maxRecDepth 100000

theorem fB_pow (f : Nat) (h1 : 1 ≤ f) (h4 : f ≤ 4) : fB f = 8 * 2 ^ f := by
  obtain rfl | rfl | rfl | rfl : f = 1 ∨ f = 2 ∨ f = 3 ∨ f = 4 := by omega
  all_goals rfl

set_option maxHeartbeats 1000000 in
theorem ref05_Bits (f : Nat) (h1 : 1 ≤ f) (h4 : f ≤ 4) : Gives Tryz.prog 66 #[.int .i64 f] (.int .i64 (fB f : Nat)) := by
  intro w0
  have hst := St.start [] w0
  have hB := Lib.hid (fB_pow f h1 h4)
  obtain ⟨res, hres⟩ : ∃ res : Nat, res = fB f := ⟨_, rfl⟩
  rw [← hres]
  have hres' := Lib.hid hres
  clear hres
  go_enter Tryz.func66, Tryz.ntmps66
  go_wp2_with fail
  go_loopw [3, 4] (fun vn vi wr => ∃ i : Nat, i ≤ f ∧ vi = .int .i64 i ∧ vn = .int .i64 (8 * 2 ^ i : Nat) ∧ St w0 [] [] wr) (fun _ vi _ => f - (intOf vi).toNat)
  case atStart => exact ⟨0, by omega, rfl, rfl, hst⟩
  case round =>
    clear hst
    obtain ⟨i, hi, rfl, rfl, hst⟩ := hrel
    have hp : 2 ^ i ≤ 2 ^ 4 := Nat.pow_le_pow_right (by omega) (by omega)
    obtain ⟨n, hn⟩ : ∃ n : Nat, n = 8 * 2 ^ i := ⟨_, rfl⟩
    have hn' := Lib.hid hn
    have hnl : n ≤ 128 := by omega
    by_cases hlt : i < f
    · have i1 : (i : Int) < (f : Int) := by omega
      rw [← hn]
      clear hn hp
      go_wp2_with fail
      refine ⟨⟨i + 1, by omega, by go_num, ?_, hst⟩, ?_⟩
      · rw [Nat.pow_succ, ← Nat.mul_assoc, ← hn'.out]; go_num
      · (simp [intOf]; try omega)
    · obtain rfl : i = f := by omega
      have i1 : ¬ (i : Int) < (i : Int) := by omega
      rw [← hn]
      have e : n = res := by rw [hn'.out, hres'.out]; exact hB.out.symm
      subst e
      clear hn hp
      go_wp2_with fail
      refine bp_t rfl rfl (by rfl) ⟨?_, hst.keeps⟩
      rfl

theorem ref05_Field (f : Nat) (h1 : 1 ≤ f) (h4 : f ≤ 4) : Gives Tryz.prog 81 #[.int .i64 f] (.int .i64 (fK f : Nat)) := by
  intro w0
  have hst := St.start [] w0
  have hb := ref05_Bits f h1 h4
  have hp := ref05_Prec f h1 h4
  have e := fBPK f
  have a := fP_in f
  have b := fB_in f
  have E : (fB f : Int) - (fP f : Int) = (fK f : Int) := by omega
  generalize fB f = x at *
  generalize fP f = y at *
  generalize fK f = z at *
  clear e
  go_enter Tryz.func81, Tryz.ntmps81
  go_wp2_with ((first | (refine kf gf66 hst (hb) rfl rfl rfl rfl ?_; clear hst; intro w hst) | (refine kf gf25 hst (hp) rfl rfl rfl rfl ?_; clear hst; intro w hst)); try simp only [pz, pn, sz, sc])
  refine bp_t rfl rfl (by rfl) ⟨?_, hst.keeps⟩
  rfl

set_option maxHeartbeats 1000000 in
theorem ref05_EMax (f : Nat) (h1 : 1 ≤ f) (h4 : f ≤ 4) : Gives Tryz.prog 51 #[.int .i64 f] (.int .i64 (fE f : Nat)) := by
  intro w0
  have hst := St.start [] w0
  have hf := ref05_Field f h1 h4
  have hK := fK_in f
  have hE := Lib.hid (fE_pow f)
  obtain ⟨K, hKd⟩ : ∃ K : Nat, K = fK f := ⟨_, rfl⟩
  rw [← hKd] at hf hK
  have hKd' := Lib.hid hKd
  clear hKd h1 h4
  go_enter Tryz.func51, Tryz.ntmps51
  go_wp2_with fail
  go_loopw [3, 4] (fun vn vi wr => ∃ i : Nat, i + 1 ≤ K ∧ vi = .int .i64 ((i : Int) + 1) ∧ vn = .int .i64 (2 ^ i : Nat) ∧ St w0 [] [] wr) (fun _ vi _ => K - (intOf vi).toNat)
  case atStart => exact ⟨0, by omega, rfl, rfl, hst⟩
  case round =>
    clear hst
    obtain ⟨i, hi, rfl, rfl, hst⟩ := hrel
    have hp : 2 ^ i ≤ 2 ^ 14 := Nat.pow_le_pow_right (by omega) (by omega)
    obtain ⟨n, hn⟩ : ∃ n : Nat, n = 2 ^ i := ⟨_, rfl⟩
    have hn' := Lib.hid hn
    have hnl : n ≤ 16384 := by omega
    by_cases hlt : i + 1 < K
    · have i1 : (i : Int) + 1 < (K : Int) := by omega
      rw [← hn]
      clear hn hp
      go_wp2_with ((first | (refine kf gf81 hst (hf) rfl rfl rfl rfl ?_; clear hst; intro w hst)); try simp only [pz, pn, sz, sc])
      refine ⟨⟨i + 1, by omega, by go_num, ?_, hst⟩, ?_⟩
      · rw [Nat.pow_succ, ← hn'.out]; go_num
      · (simp [intOf]; try omega)
    · have i1 : ¬ (i : Int) + 1 < (K : Int) := by omega
      rw [← hn]
      have e : (n : Int) - 1 = (fE f : Int) := by
        have a := hE.out
        have b : fK f = i + 1 := by rw [← hKd'.out]; omega
        rw [b, Nat.pow_succ, ← hn'.out] at a
        omega
      have e' := Lib.hid e
      clear hn hp e
      go_wp2_with ((first | (refine kf gf81 hst (hf) rfl rfl rfl rfl ?_; clear hst; intro w hst)); try simp only [pz, pn, sz, sc])
      refine bp_t rfl rfl (by rfl) ⟨?_, hst.keeps⟩
      rw [← e'.out]; rfl

theorem ref05_EMin (f : Nat) (h1 : 1 ≤ f) (h4 : f ≤ 4) : Gives Tryz.prog 37 #[.int .i64 f] (.int .i64 (1 - (fE f : Int))) := by
  intro w0
  have hst := St.start [] w0
  have he := ref05_EMax f h1 h4
  have hE := fE_in f
  generalize fE f = x at *
  go_enter Tryz.func37, Tryz.ntmps37
  go_wp2_with ((first | (refine kf gf51 hst (he) rfl rfl rfl rfl ?_; clear hst; intro w hst)); try simp only [pz, pn, sz, sc])
  refine bp_t rfl rfl (by rfl) ⟨?_, hst.keeps⟩
  rfl

set_option maxHeartbeats 1000000 in
theorem ref05_Bit (m i : Nat) (hm : m < M2) (hi : i < 128) : Gives Tryz.prog 67 #[Wd m, .int .i64 i] (.bool (m.testBit i)) := by
  intro w0
  have hst := St.start [] w0
  obtain ⟨j, hj⟩ : ∃ j, j = i / 64 := ⟨_, rfl⟩
  obtain ⟨r, hr⟩ : ∃ r, r = i % 64 := ⟨_, rfl⟩
  obtain ⟨x, hx⟩ : ∃ x, x = lb m j := ⟨_, rfl⟩
  have hxB : x < B := by rw [hx]; exact lb_lt _ _
  obtain ⟨y, hy⟩ : ∃ y, y = x / 2 ^ r := ⟨_, rfl⟩
  have hyB : y < B := by rw [hy]; exact Nat.lt_of_le_of_lt (Nat.div_le_self _ _) hxB
  have hy' : (x : Int) / 2 ^ r = (y : Int) := by rw [hy, cast_pow2]; omega
  have hres : ((y : Int) % 2 == 1) = m.testBit i := by
    have e : m.testBit i = x.testBit r := by
      rw [hx, lb_testBit, show 64 * j + r = i by omega]
      have : r < 64 := by omega
      simp [this]
    rw [e, Bool.eq_iff_iff, ← testBit_mod2, ← hy]
    simp; omega
  have hres' := Lib.hid hres
  have hrs : r < 64 := by omega
  clear hres hy
  by_cases h64 : 64 ≤ i
  · obtain rfl : j = 1 := by omega
    have Q1 : (i : Int) - 64 = (r : Int) := by omega
    have Q2 : (64 : Int) ≤ (i : Int) := by omega
    have Q3 : (0 : Int) ≤ (r : Int) := by omega
    have hx' : lb m 1 = x := hx.symm
    clear hj hr hx h64
    go_enter Tryz.func67, Tryz.ntmps67
    go_wp2_with ((first | (refine kb 2 hst rfl rfl ?_; clear hst; intro b2 w hb2 hst) | (refine kc hst tc22 rfl ?_)); try simp only [pz, pn, sz, sc])
    refine bp_t rfl rfl (by rfl) ⟨?_, hst.keeps⟩
    exact congrArg (fun b => Ending.returned (Value.bool b)) hres'.out
  · obtain rfl : j = 0 := by omega
    obtain rfl : r = i := by omega
    have Q2 : ¬ (64 : Int) ≤ (r : Int) := by omega
    have Q3 : (0 : Int) ≤ (r : Int) := by omega
    have hx' : lb m 0 = x := hx.symm
    clear hj hr hx h64
    go_enter Tryz.func67, Tryz.ntmps67
    go_wp2_with ((first | (refine kb 2 hst rfl rfl ?_; clear hst; intro b2 w hb2 hst) | (refine kc hst tc22 rfl ?_)); try simp only [pz, pn, sz, sc])
    refine bp_t rfl rfl (by rfl) ⟨?_, hst.keeps⟩
    exact congrArg (fun b => Ending.returned (Value.bool b)) hres'.out

theorem fits_bits (m n : Nat) (hm : m < 2 ^ 128) (h : ∀ j, n ≤ j → j < 128 → m.testBit j = false) : m < 2 ^ n := by
  apply Nat.lt_pow_two_of_testBit
  intro j hj
  rcases Nat.lt_or_ge j 128 with h' | h'
  · exact h j hj h'
  · exact Nat.testBit_lt_two_pow (Nat.lt_of_lt_of_le hm (Nat.pow_le_pow_right (by omega) h'))

set_option maxHeartbeats 1000000 in
theorem ref05_Fits (f : Nat) (h1 : 1 ≤ f) (h4 : f ≤ 4) (m : Nat) (hm : m < M2) : Gives Tryz.prog 68 #[.int .i64 f, Wd m] (.bool (decide (m < 2 ^ fB f))) := by
  intro w0
  have hst := St.start [] w0
  have his := ref05_Is f h1 h4
  have hb := ref05_Bits f h1 h4
  have hbit := Lib.hid (fun i (hi : i < 128) => ref05_Bit m i hm hi)
  have hB := fB_in f
  have hm128 : m < 2 ^ 128 := by have c : M2 = 2 ^ 128 := by decide
                                 omega
  have hyes := Lib.hid (fits_bits m (fB f) hm128)
  have hno := Lib.hid (show ∀ j, fB f ≤ j → m.testBit j = true → ¬ m < 2 ^ fB f from fun j hj ht hlt => by
    rw [Nat.testBit_lt_two_pow (Nat.lt_of_lt_of_le hlt (Nat.pow_le_pow_right (by omega) hj))] at ht
    exact absurd ht (by simp))
  obtain ⟨res, hres⟩ : ∃ res, res = decide (m < 2 ^ fB f) := ⟨_, rfl⟩
  rw [← hres]
  have hres' := Lib.hid hres
  clear hm h1 h4 hres hm128
  obtain ⟨bb, hbb⟩ : ∃ bb, bb = fB f := ⟨_, rfl⟩
  rw [← hbb] at hb hB
  have hbb' := Lib.hid hbb
  clear hbb
  go_enter Tryz.func68, Tryz.ntmps68
  go_wp2_with ((first | (refine kf gf100 hst (his) rfl rfl rfl rfl ?_; clear hst; intro w hst) | (refine kf gf66 hst (hb) rfl rfl rfl rfl ?_; clear hst; intro w hst) | (refine kb 3 hst rfl rfl ?_; clear hst; intro b3 w hb3 hst)); try simp only [pz, pn, sz, sc])
  go_loopw [5] (fun vn wr => ∃ n : Nat, bb ≤ n ∧ n ≤ 128 ∧ vn = .int .i64 n ∧ (∀ j, bb ≤ j → j < n → m.testBit j = false) ∧ St w0 [] [(b3, .cells (wdc m) 24)] wr) (fun vn _ => 128 - (intOf vn).toNat)
  case atStart => exact ⟨bb, by omega, by omega, rfl, fun j a b => absurd b (by omega), hst⟩
  case round =>
    clear hst
    obtain ⟨n, n1, n2, rfl, hall, hst⟩ := hrel
    have hall' := Lib.hid hall
    clear hall
    by_cases hlt : n < 128
    · have i1 : (n : Int) < 128 := by omega
      have hbn := hbit.out n hlt
      cases ht : m.testBit n
      · rw [ht] at hbn
        have ht' := Lib.hid ht
        clear ht
        go_wp2_with ((first | (refine kf gf67 hst (hbn) rfl rfl rfl rfl ?_; clear hst; intro w hst) | (refine kl hst ta24 rfl ?_)); try simp only [pz, pn, sz, sc])
        refine ⟨⟨n + 1, by omega, by omega, by go_num, fun j a b => by
          rcases Nat.lt_or_eq_of_le (Nat.le_of_lt_succ b) with h | h
          · exact hall'.out j a h
          · rw [h]; exact ht'.out, hst⟩, ?_⟩
        (simp [intOf]; try omega)
      · rw [ht] at hbn
        have e : res = false := by rw [hres'.out]; exact decide_eq_false (hno.out n (by rw [← hbb'.out]; exact n1) ht)
        subst e
        clear ht
        go_wp2_with ((first | (refine kf gf67 hst (hbn) rfl rfl rfl rfl ?_; clear hst; intro w hst) | (refine kl hst ta24 rfl ?_)); try simp only [pz, pn, sz, sc])
        refine bp_t rfl rfl (by rfl) ⟨?_, hst.keeps⟩
        rfl
    · obtain rfl : n = 128 := by omega
      have i1 : ¬ ((128 : Nat) : Int) < 128 := by omega
      have e : res = true := by rw [hres'.out]; exact decide_eq_true (hyes.out (fun j a b => hall'.out j (by rw [hbb'.out]; exact a) b))
      subst e
      go_wp2_with fail
      refine bp_t rfl rfl (by rfl) ⟨?_, hst.keeps⟩
      rfl

theorem ref05_Fits_no (f : Int) (h : f < 1 ∨ 4 < f) (m : Nat) : Gives Tryz.prog 68 #[.int .i64 f, Wd m] (.bool false) := by
  intro w0
  have hst := St.start [] w0
  have his := ref05_Is_no f h
  clear h
  go_enter Tryz.func68, Tryz.ntmps68
  go_wp2_with ((first | (refine kf gf100 hst (his) rfl rfl rfl rfl ?_; clear hst; intro w hst) | (refine kb 3 hst rfl rfl ?_; clear hst; intro b3 w hb3 hst)); try simp only [pz, pn, sz, sc])
  refine bp_t rfl rfl (by rfl) ⟨?_, hst.keeps⟩
  rfl

end Go.Proofs.YtefpoconpeggpaaGreatDoor.Rd

namespace Go.Proofs.YtefpoconpeggpaaGreatDoor.Rd
open Go Go.RowKit
set_option linter.unusedVariables false
set_option linter.unusedSimpArgs false
set_option maxRecDepth 100000

theorem field_step (m i k : Nat) : m / 2 ^ i % 2 ^ (k + 1) = 2 * (m / 2 ^ (i + 1) % 2 ^ k) + (if m.testBit i then 1 else 0) := by
  have e1 : m / 2 ^ (i + 1) = m / 2 ^ i / 2 := by rw [Nat.pow_succ, Nat.div_div_eq_div_mul]
  have e2 : (if m.testBit i then 1 else 0) = m / 2 ^ i % 2 := by
    rw [Nat.testBit_eq_decide_div_mod_eq]
    by_cases h : m / 2 ^ i % 2 = 1
    · simp [h]
    · have : m / 2 ^ i % 2 = 0 := by omega
      simp [this]
  rw [e1, e2]
  generalize m / 2 ^ i = x
  rw [Nat.pow_succ, Nat.mul_comm (2 ^ k) 2, Nat.mod_mul]
  omega

set_option maxHeartbeats 2000000 in
theorem ref06_Field (f : Nat) (h1 : 1 ≤ f) (h4 : f ≤ 4) (m : Nat) (hm : m < M2) : Gives Tryz.prog 34 #[.int .i64 f, Wd m] (.int .i64 (wField f m : Nat)) := by
  intro w0
  have hst := St.start [] w0
  have hb := ref05_Bits f h1 h4
  have hp := ref05_Prec f h1 h4
  have hbit := Lib.hid (fun i (hi : i < 128) => ref05_Bit m i hm hi)
  have hP := fP_in f
  have hB := fB_in f
  have hK := fBPK f
  have hstep := Lib.hid (field_step m)
  obtain ⟨res, hres⟩ : ∃ res, res = wField f m := ⟨_, rfl⟩
  rw [← hres]
  obtain ⟨K, hKd⟩ : ∃ K, K = fK f := ⟨_, rfl⟩
  have hres' := Lib.hid (show res = m / 2 ^ (fP f - 1) % 2 ^ K by rw [hres, hKd]; rfl)
  have hKl := (fK_in f).2
  rw [← hKd] at hK hKl
  clear hres hm h1 h4 hKd
  generalize fB f = bb at *
  generalize fP f = p at *
  have hW1 : IntKind.i64.wrap ((p : Int) - 1) = (p : Int) - 1 := by rw [IntKind.wrap_i64]; omega
  go_enter Tryz.func34, Tryz.ntmps34
  go_wp2_with ((first | (refine kf gf66 hst (hb) rfl rfl rfl rfl ?_; clear hst; intro w hst) | (refine kb 3 hst rfl rfl ?_; clear hst; intro b3 w hb3 hst)); try simp only [pz, pn, sz, sc])
  go_loopw [5, 6] (fun vn vi wr => ∃ j k : Nat, j + k = bb - 1 ∧ p - 1 ≤ j ∧ vi = .int .i64 ((j : Int) - 1) ∧ vn = .int .i64 (m / 2 ^ j % 2 ^ k : Nat) ∧ St w0 [] [(b3, .cells (wdc m) 24)] wr) (fun _ vi _ => (intOf vi + 1).toNat)
  case atStart => exact ⟨bb - 1, 0, by omega, by omega, by congr 1; omega, by rw [Nat.pow_zero, Nat.mod_one]; rfl, hst⟩
  case round =>
    clear hst
    obtain ⟨j, k, hjk, hj, rfl, rfl, hst⟩ := hrel
    have hk : k ≤ K := by omega
    have hl : m / 2 ^ j % 2 ^ k < 2 ^ 15 := Nat.lt_of_lt_of_le (Nat.mod_lt _ (Nat.pow_pos (by omega))) (Nat.pow_le_pow_right (by omega) (by omega))
    obtain ⟨n, hn⟩ : ∃ n, n = m / 2 ^ j % 2 ^ k := ⟨_, rfl⟩
    rw [← hn] at hl
    have hn' := Lib.hid hn
    rw [← hn]
    clear hn
    by_cases hlt : p ≤ j
    · obtain ⟨i, rfl⟩ : ∃ i, j = i + 1 := ⟨j - 1, by omega⟩
      obtain ⟨iv, hiv⟩ : ∃ iv : Int, iv = ((i + 1 : Nat) : Int) - 1 := ⟨_, rfl⟩
      have hbn := hbit.out i (by omega)
      rw [show (i : Int) = iv by omega] at hbn
      rw [← hiv]
      have i1 : (p : Int) - 1 ≤ iv := by omega
      have i2 : iv ≤ 130 := by omega
      have i3 : 0 ≤ iv := by omega
      have hiv' := Lib.hid hiv
      have hs := hstep.out i k
      rw [← hn'.out] at hs
      have hs' := Lib.hid hs
      clear hiv hs
      cases ht : m.testBit i
      · rw [ht] at hbn
        have ht' := Lib.hid ht
        clear ht
        go_wp2_with ((first | (refine kf gf25 hst (hp) rfl rfl rfl rfl ?_; clear hst; intro w hst) | (refine kf gf67 hst (hbn) rfl rfl rfl rfl ?_; clear hst; intro w hst) | (refine kl hst ta24 rfl ?_)); try simp only [pz, pn, sz, sc])
        refine ⟨⟨i, k + 1, by omega, by omega, by congr 1; have := hiv'.out; omega, ?_, hst⟩, ?_⟩
        · rw [hs'.out, ht'.out, if_neg (by simp)]; go_num
        · have := hiv'.out; (simp [intOf]; try omega)
      · rw [ht] at hbn
        have ht' := Lib.hid ht
        clear ht
        go_wp2_with ((first | (refine kf gf25 hst (hp) rfl rfl rfl rfl ?_; clear hst; intro w hst) | (refine kf gf67 hst (hbn) rfl rfl rfl rfl ?_; clear hst; intro w hst) | (refine kl hst ta24 rfl ?_)); try simp only [pz, pn, sz, sc])
        refine ⟨⟨i, k + 1, by omega, by omega, by congr 1; have := hiv'.out; omega, ?_, hst⟩, ?_⟩
        · rw [hs'.out, ht'.out, if_pos rfl]; go_num
        · have := hiv'.out; (simp [intOf]; try omega)
    · obtain rfl : j = p - 1 := by omega
      obtain rfl : k = K := by omega
      have i1 : ¬ (p : Int) - 1 ≤ ((p - 1 : Nat) : Int) - 1 := by omega
      have e : n = res := by rw [hn'.out, hres'.out]
      subst e
      go_wp2_with ((first | (refine kf gf25 hst (hp) rfl rfl rfl rfl ?_; clear hst; intro w hst)); try simp only [pz, pn, sz, sc])
      refine bp_t rfl rfl (by rfl) ⟨?_, hst.keeps⟩
      rfl

end Go.Proofs.YtefpoconpeggpaaGreatDoor.Rd

namespace Go.Proofs.YtefpoconpeggpaaGreatDoor.Rd
open Go Go.RowKit
set_option linter.unusedVariables false
set_option linter.unusedSimpArgs false
set_option maxRecDepth 100000

set_option maxHeartbeats 4000000 in
theorem ask_wide (f : Nat) (h1 : 1 ≤ f) (h4 : f ≤ 4) (m : Nat) (hm : m < 2 ^ fB f) (g : FuncId) (hg : GoF Tryz.prog g) (x : Nat) (w0 : World) (hF : FmtIn w0)
    (hgv : ∀ w, Keeps [] w0 w → GivesAt Tryz.prog g #[.agg (ptC f m)] (W x) w) : GivesAt Tryz.prog 154 #[.int .i64 f, Wd m, .func (.func g) #[] #[]] (W x) w0 := by
  have hst := St.start [] w0
  have hk := Lib.hid (fun w (k : Keeps [] w0 w) => hF.keep k (by simp))
  have hm2 : m < M2 := Nat.lt_of_lt_of_le hm (by
    have := (fB_in f).2
    exact Nat.pow_le_pow_right (by omega) this)
  have hfit := fun w h => format_Fits f h1 h4 m hm2 w h
  rw [decide_eq_true hm] at hfit
  have hof := fun w h => format_Of f h1 h4 w h
  have hfr := wide_From m hm2
  have hmM : m < M := Nat.lt_of_lt_of_le hm2 (by rw [M_eq]; exact Nat.pow_le_pow_right B_pos (by omega))
  have hp := fP_in f
  have hb := fB_in f
  have hK := fK_in f
  have hhi := wHigh f m hm
  have hshr := wide_Shr m (fP f - 1 : Nat) hmM
  rw [clampN_nat _ (by omega)] at hshr
  have hle : m / 2 ^ (fP f - 1) * 2 ^ (fP f - 1) ≤ m := Nat.div_mul_le_self _ _
  have hshl := wide_Shl (m / 2 ^ (fP f - 1)) (fP f - 1 : Nat) (Nat.lt_of_le_of_lt (Nat.div_le_self _ _) hmM)
  rw [clampN_nat _ (by omega), Nat.mod_eq_of_lt (Nat.lt_of_le_of_lt hle hmM)] at hshl
  have hsub := wide_Sub m (m / 2 ^ (fP f - 1) * 2 ^ (fP f - 1)) hmM (Nat.lt_of_le_of_lt hle hmM)
  have hfrac : (m + M - m / 2 ^ (fP f - 1) * 2 ^ (fP f - 1)) % M = wFrac f m := by
    unfold wFrac
    have hd := Nat.div_add_mod m (2 ^ (fP f - 1))
    rw [Nat.mul_comm] at hd
    rw [show m + M - m / 2 ^ (fP f - 1) * 2 ^ (fP f - 1) = m % 2 ^ (fP f - 1) + M by omega, Nat.add_mod_right, Nat.mod_eq_of_lt (by omega)]
  rw [hfrac] at hsub
  have hbit := wide_Bit m (fB f - 1) hmM (by omega)
  rw [wNeg_bit f m hm] at hbit
  have hfield : bits .and .i64 ((m / 2 ^ (fP f - 1) : Nat) : Int) ((2 ^ fK f - 1 : Nat) : Int) = (wField f m : Int) := by
    have a1 : 2 ^ (fK f + 1) ≤ 2 ^ 16 := Nat.pow_le_pow_right (by omega) (by omega)
    have a2 : 2 ^ fK f ≤ 2 ^ 16 := Nat.pow_le_pow_right (by omega) (by omega)
    rw [bits_and_i64 _ _ (by omega) (by omega), Nat.and_two_pow_sub_one_eq_mod]
    rfl
  have hhB : m / 2 ^ (fP f - 1) < 65536 + 1 := by
    have a1 : 2 ^ (fK f + 1) ≤ 2 ^ 16 := Nat.pow_le_pow_right (by omega) (by omega)
    omega
  have hlb : lb (m / 2 ^ (fP f - 1)) 0 = m / 2 ^ (fP f - 1) := by rw [lb_zero, Nat.mod_eq_of_lt (by rw [B_val]; omega)]
  have hpow : (2 : Int) ^ fK f - 1 = ((2 ^ fK f - 1 : Nat) : Int) := by
    have : 0 < 2 ^ fK f := Nat.pow_pos (by omega)
    rw [Int.natCast_sub (by omega)]; simp
  have hpw : 2 ^ fK f ≤ 65536 := by
    have a2 : 2 ^ fK f ≤ 2 ^ 16 := Nat.pow_le_pow_right (by omega) (by omega)
    omega
  have A1 : IntKind.i64.wrap ((m / 2 ^ (fP f - 1) : Nat) : Int) = ((m / 2 ^ (fP f - 1) : Nat) : Int) := by rw [IntKind.wrap_i64]; omega
  have A2 : IntKind.i64.wrap ((2 : Int) ^ fK f) = (2 : Int) ^ fK f := by rw [show (2 : Int) ^ fK f = ((2 ^ fK f - 1 : Nat) : Int) + 1 by omega, IntKind.wrap_i64]; omega
  have A3 : IntKind.i64.wrap ((2 : Int) ^ fK f - 1) = ((2 ^ fK f - 1 : Nat) : Int) := by rw [hpow, IntKind.wrap_i64]; omega
  clear hpow
  have c1 : ((fP f - 1 : Nat) : Int) = (fP f : Int) - 1 := by omega
  have c2 : ((fB f - 1 : Nat) : Int) = (fB f : Int) - 1 := by omega
  rw [c1] at hshr hshl
  rw [c2] at hbit
  have z1 := fmC_size f
  have z2 := fmC_one f
  have g0 : (fmC f)[0]? = some (.int .i64 (fB f : Nat)) := rfl
  have g1 : (fmC f)[0 + 1]? = some (.int .i64 (fP f : Nat)) := rfl
  have g4 : (fmC f)[0 + 4]? = some (.int .i64 (fK f : Nat)) := rfl
  have y1 := ptC_size f m
  have y2 := ptC_one f m
  have hpt : ptC f m = fmC f ++ (#[.bool (wNeg f m), .int .i64 (wField f m : Nat)] ++ wc 8 (wFrac f m)) := rfl
  have hgv' := Lib.hid hgv
  have hw1 : IntKind.i64.wrap ((fP f : Int) - 1) = (fP f : Int) - 1 := by rw [IntKind.wrap_i64]; omega
  have hw2 : IntKind.i64.wrap ((fB f : Int) - 1) = (fB f : Int) - 1 := by rw [IntKind.wrap_i64]; omega
  have hbp := fun w => build_parts f (wNeg f m) (wField f m : Nat) (wFrac f m) w
  rw [← hpt] at hbp
  clear hF hm hm2 hmM hhi hle hfrac hgv c1 c2 hpt
  generalize ptC f m = ps at *
  generalize m / 2 ^ (fP f - 1) * 2 ^ (fP f - 1) = hx at *
  generalize m / 2 ^ (fP f - 1) = hi' at *
  generalize wFrac f m = fr at *
  generalize wField f m = fld at *
  generalize wNeg f m = ng at *
  generalize fmC f = cs at *
  go_enter Tryz.func154, Tryz.ntmps154
  go_wp2_with ((first | (refine kg gf169 hst (fun w hst => hfit w (hk.out w hst.keeps)) rfl rfl rfl rfl ?_; clear hst; intro w hst) | (refine kg gf70 hst (fun w hst => hof w (hk.out w hst.keeps)) rfl rfl rfl rfl ?_; clear hst; intro w hst) | (refine kf gf170 hst (hfr) rfl rfl rfl rfl ?_; clear hst; intro w hst) | (refine kf gf87 hst (hshr) rfl rfl rfl rfl ?_; clear hst; intro w hst) | (refine kb 4 hst rfl rfl ?_; clear hst; intro b4 w hb4 hst) | (refine ka 6 hst tz44 rfl rfl ?_; clear hst; intro b6 w hb6 hst) | (refine ka 7 hst tz44 rfl rfl ?_; clear hst; intro b7 w hb7 hst) | (refine kl hst ta24 rfl ?_) | (refine kl hst ta44 rfl ?_) | (refine kt hst ta44 rfl rfl ?_; clear hst; intro w hst) | (refine ka 8 hst tz128 rfl rfl ?_; clear hst; intro b8 w hb8 hst) | (refine kt hst ta128 rfl rfl ?_; clear hst; intro w hst) | (refine ka 10 hst tz44 rfl rfl ?_; clear hst; intro b10 w hb10 hst) | (refine kc hst tc3 rfl ?_) | (refine ka 11 hst tz44 rfl rfl ?_; clear hst; intro b11 w hb11 hst)); try simp only [pz, pn, sz, sc])
  refine wp_region_T 11  hst (by kernel_rfl) ?_; clear hst; intro w hst; (try simp only [List.length_cons, List.length_nil, Nat.reduceAdd, Array.replicate_succ, Array.replicate_zero, List.push_toArray, List.nil_append, List.cons_append])
  refine r0 2 ?_; simp only [pz, pn, sz, sc, hw1]
  refine rl 0 rfl ?_ (by first | exact ylA ta44 | exact ylM ta44); simp only [pz, pn, sz, sc, hw1]
  refine rl 1 rfl ?_ (by first | exact ylA ta44 | exact ylM ta44); simp only [pz, pn, sz, sc, hw1]
  refine rl 3 rfl ?_ (ylC tc3); simp only [pz, pn, sz, sc, hw1]
  refine r0 4 ?_; simp only [pz, pn, sz, sc, hw1]
  refine r2 5 10 ?_ ?_
  (refine kf gf48 hst (hshl) rfl rfl rfl rfl ?_; clear hst; intro w hst); (try simp only [pz, pn, sz, sc, hw1]); refine re ?_
  refine r2 6 10 ?_ ?_
  (refine kf gf122 hst (hsub) rfl rfl rfl rfl ?_; clear hst; intro w hst); (try simp only [pz, pn, sz, sc, hw1]); refine re ?_
  refine r0 7 ?_; simp only [pz, pn, sz, sc, hw1]
  refine r0 8 ?_; simp only [pz, pn, sz, sc, hw1]
  refine r0 9 ?_; simp only [pz, pn, sz, sc, hw1]
  refine r1 10 ?_; (refine ka 13 hst tz44 rfl rfl ?_; clear hst; intro b13 w hb13 hst); (try simp only [pz, pn, sz, sc, hw1]); refine re ?_
  refine r1 11 ?_; (refine kt hst ta44 rfl rfl ?_; clear hst; intro w hst); (try simp only [pz, pn, sz, sc, hw1]); refine re ?_
  refine r0 12 ?_; simp only [pz, pn, sz, sc, hw1]
  refine rd_ ?_
  rotate_left 1
  (refine ka 13 hst tz44 rfl rfl ?_; clear hst; intro b13 w hb13 hst); (try simp only [pz, pn, sz, sc, hw1]); refine re ?_
  refine r1 6 ?_; (refine kf gf122 hst (hsub) rfl rfl rfl rfl ?_; clear hst; intro w hst); (try simp only [pz, pn, sz, sc, hw1]); refine re ?_
  refine r0 7 ?_; simp only [pz, pn, sz, sc, hw1]
  refine r0 8 ?_; simp only [pz, pn, sz, sc, hw1]
  refine r0 9 ?_; simp only [pz, pn, sz, sc, hw1]
  refine r1 11 ?_; (refine kt hst ta44 rfl rfl ?_; clear hst; intro w hst); (try simp only [pz, pn, sz, sc, hw1]); refine re ?_
  refine r0 12 ?_; simp only [pz, pn, sz, sc, hw1]
  refine rd_ ?_
  rotate_right 1
  rotate_left 2
  (refine ka 13 hst tz44 rfl rfl ?_; clear hst; intro b13 w hb13 hst); (try simp only [pz, pn, sz, sc, hw1]); refine re ?_
  refine r1 5 ?_; (refine kf gf48 hst (hshl) rfl rfl rfl rfl ?_; clear hst; intro w hst); (try simp only [pz, pn, sz, sc, hw1]); refine re ?_
  refine r1 6 ?_; (refine kf gf122 hst (hsub) rfl rfl rfl rfl ?_; clear hst; intro w hst); (try simp only [pz, pn, sz, sc, hw1]); refine re ?_
  refine r0 7 ?_; simp only [pz, pn, sz, sc, hw1]
  refine r0 8 ?_; simp only [pz, pn, sz, sc, hw1]
  refine r0 9 ?_; simp only [pz, pn, sz, sc, hw1]
  refine r1 11 ?_; (refine kt hst ta44 rfl rfl ?_; clear hst; intro w hst); (try simp only [pz, pn, sz, sc, hw1]); refine re ?_
  refine r0 12 ?_; simp only [pz, pn, sz, sc, hw1]
  refine rd_ ?_
  rotate_right 2
  all_goals
    go_wp2_with fail
    refine wp_region_T 9  hst (by kernel_rfl) ?_; clear hst; intro w hst; (try simp only [List.length_cons, List.length_nil, Nat.reduceAdd, Array.replicate_succ, Array.replicate_zero, List.push_toArray, List.nil_append, List.cons_append])
    refine r0 0 ?_; simp only [pz, pn, sz, sc, A1, A2, A3, hfield]
    refine r0 3 ?_; simp only [pz, pn, sz, sc, A1, A2, A3, hfield]
    refine rl 1 rfl ?_ (ylC tc22); simp only [pz, pn, sz, sc, A1, A2, A3, hfield]
    refine r0 2 ?_; simp only [pz, pn, sz, sc, A1, A2, A3, hfield]
    refine rl 4 rfl ?_ (ylC tc3); simp only [pz, pn, sz, sc, A1, A2, A3, hfield]
    refine r0 5 ?_; simp only [pz, pn, sz, sc, A1, A2, A3, hfield]
    refine r0 6 ?_; simp only [pz, pn, sz, sc, A1, A2, A3, hfield]
    refine r0 7 ?_; simp only [pz, pn, sz, sc, A1, A2, A3, hfield]
    refine r0 8 ?_; simp only [pz, pn, sz, sc, A1, A2, A3, hfield]
    refine rd_ ?_
    go_wp2_with fail
    refine wp_region_T 11  hst (by kernel_rfl) ?_; clear hst; intro w hst; (try simp only [List.length_cons, List.length_nil, Nat.reduceAdd, Array.replicate_succ, Array.replicate_zero, List.push_toArray, List.nil_append, List.cons_append])
    refine r0 0 ?_; simp only [pz, pn, sz, sc, hw2]
    refine r0 3 ?_; simp only [pz, pn, sz, sc, hw2]
    refine r0 7 ?_; simp only [pz, pn, sz, sc, hw2]
    refine rl 1 rfl ?_ (by first | exact ylA ta128 | exact ylM ta128); simp only [pz, pn, sz, sc, hw2]
    refine rl 2 rfl ?_ (by first | exact ylA ta44 | exact ylM ta44); simp only [pz, pn, sz, sc, hw2]
    refine rl 4 rfl ?_ (ylC tc3); simp only [pz, pn, sz, sc, hw2]
    refine r0 5 ?_; simp only [pz, pn, sz, sc, hw2]
    refine rl 8 rfl ?_ (by first | exact ylA ta44 | exact ylM ta44); simp only [pz, pn, sz, sc, hw2]
    refine r1 6 ?_; (refine kf gf86 hst (hbit) rfl rfl rfl rfl ?_; clear hst; intro w hst); (try simp only [pz, pn, sz, sc, hw2]); refine re ?_
    refine r0 9 ?_ (hy := yB (hbp)); simp only [pz, pn, sz, sc, hw2]
    refine r1 10 ?_; (refine kg hg hst (fun w hst => hgv'.out w hst.keeps) rfl rfl rfl rfl ?_; clear hst; intro w hst); (try simp only [pz, pn, sz, sc, hw2]); refine re ?_
    refine r1 11 ?_; (refine kt hst ta44 rfl rfl ?_; clear hst; intro w hst); (try simp only [pz, pn, sz, sc, hw2]); refine re ?_
    refine rd_ ?_
    go_wp2_with fail
    refine bp_c rfl rfl (la hst ta44) ⟨?_, hst.keeps⟩
    rfl

set_option maxHeartbeats 4000000 in
theorem ask_bool (f : Nat) (h1 : 1 ≤ f) (h4 : f ≤ 4) (m : Nat) (hm : m < 2 ^ fB f) (g : FuncId) (hg : GoF Tryz.prog g) (x : Bool) (w0 : World) (hF : FmtIn w0)
    (hgv : ∀ w, Keeps [] w0 w → GivesAt Tryz.prog g #[.agg (ptC f m)] (.bool x) w) : GivesAt Tryz.prog 156 #[.int .i64 f, Wd m, .func (.func g) #[] #[]] (.bool x) w0 := by
  have hst := St.start [] w0
  have hk := Lib.hid (fun w (k : Keeps [] w0 w) => hF.keep k (by simp))
  have hm2 : m < M2 := Nat.lt_of_lt_of_le hm (by
    have := (fB_in f).2
    exact Nat.pow_le_pow_right (by omega) this)
  have hfit := fun w h => format_Fits f h1 h4 m hm2 w h
  rw [decide_eq_true hm] at hfit
  have hof := fun w h => format_Of f h1 h4 w h
  have hfr := wide_From m hm2
  have hmM : m < M := Nat.lt_of_lt_of_le hm2 (by rw [M_eq]; exact Nat.pow_le_pow_right B_pos (by omega))
  have hp := fP_in f
  have hb := fB_in f
  have hK := fK_in f
  have hhi := wHigh f m hm
  have hshr := wide_Shr m (fP f - 1 : Nat) hmM
  rw [clampN_nat _ (by omega)] at hshr
  have hle : m / 2 ^ (fP f - 1) * 2 ^ (fP f - 1) ≤ m := Nat.div_mul_le_self _ _
  have hshl := wide_Shl (m / 2 ^ (fP f - 1)) (fP f - 1 : Nat) (Nat.lt_of_le_of_lt (Nat.div_le_self _ _) hmM)
  rw [clampN_nat _ (by omega), Nat.mod_eq_of_lt (Nat.lt_of_le_of_lt hle hmM)] at hshl
  have hsub := wide_Sub m (m / 2 ^ (fP f - 1) * 2 ^ (fP f - 1)) hmM (Nat.lt_of_le_of_lt hle hmM)
  have hfrac : (m + M - m / 2 ^ (fP f - 1) * 2 ^ (fP f - 1)) % M = wFrac f m := by
    unfold wFrac
    have hd := Nat.div_add_mod m (2 ^ (fP f - 1))
    rw [Nat.mul_comm] at hd
    rw [show m + M - m / 2 ^ (fP f - 1) * 2 ^ (fP f - 1) = m % 2 ^ (fP f - 1) + M by omega, Nat.add_mod_right, Nat.mod_eq_of_lt (by omega)]
  rw [hfrac] at hsub
  have hbit := wide_Bit m (fB f - 1) hmM (by omega)
  rw [wNeg_bit f m hm] at hbit
  have hfield : bits .and .i64 ((m / 2 ^ (fP f - 1) : Nat) : Int) ((2 ^ fK f - 1 : Nat) : Int) = (wField f m : Int) := by
    have a1 : 2 ^ (fK f + 1) ≤ 2 ^ 16 := Nat.pow_le_pow_right (by omega) (by omega)
    have a2 : 2 ^ fK f ≤ 2 ^ 16 := Nat.pow_le_pow_right (by omega) (by omega)
    rw [bits_and_i64 _ _ (by omega) (by omega), Nat.and_two_pow_sub_one_eq_mod]
    rfl
  have hhB : m / 2 ^ (fP f - 1) < 65536 + 1 := by
    have a1 : 2 ^ (fK f + 1) ≤ 2 ^ 16 := Nat.pow_le_pow_right (by omega) (by omega)
    omega
  have hlb : lb (m / 2 ^ (fP f - 1)) 0 = m / 2 ^ (fP f - 1) := by rw [lb_zero, Nat.mod_eq_of_lt (by rw [B_val]; omega)]
  have hpow : (2 : Int) ^ fK f - 1 = ((2 ^ fK f - 1 : Nat) : Int) := by
    have : 0 < 2 ^ fK f := Nat.pow_pos (by omega)
    rw [Int.natCast_sub (by omega)]; simp
  have hpw : 2 ^ fK f ≤ 65536 := by
    have a2 : 2 ^ fK f ≤ 2 ^ 16 := Nat.pow_le_pow_right (by omega) (by omega)
    omega
  have A1 : IntKind.i64.wrap ((m / 2 ^ (fP f - 1) : Nat) : Int) = ((m / 2 ^ (fP f - 1) : Nat) : Int) := by rw [IntKind.wrap_i64]; omega
  have A2 : IntKind.i64.wrap ((2 : Int) ^ fK f) = (2 : Int) ^ fK f := by rw [show (2 : Int) ^ fK f = ((2 ^ fK f - 1 : Nat) : Int) + 1 by omega, IntKind.wrap_i64]; omega
  have A3 : IntKind.i64.wrap ((2 : Int) ^ fK f - 1) = ((2 ^ fK f - 1 : Nat) : Int) := by rw [hpow, IntKind.wrap_i64]; omega
  clear hpow
  have c1 : ((fP f - 1 : Nat) : Int) = (fP f : Int) - 1 := by omega
  have c2 : ((fB f - 1 : Nat) : Int) = (fB f : Int) - 1 := by omega
  rw [c1] at hshr hshl
  rw [c2] at hbit
  have z1 := fmC_size f
  have z2 := fmC_one f
  have g0 : (fmC f)[0]? = some (.int .i64 (fB f : Nat)) := rfl
  have g1 : (fmC f)[0 + 1]? = some (.int .i64 (fP f : Nat)) := rfl
  have g4 : (fmC f)[0 + 4]? = some (.int .i64 (fK f : Nat)) := rfl
  have y1 := ptC_size f m
  have y2 := ptC_one f m
  have hpt : ptC f m = fmC f ++ (#[.bool (wNeg f m), .int .i64 (wField f m : Nat)] ++ wc 8 (wFrac f m)) := rfl
  have hgv' := Lib.hid hgv
  have hw1 : IntKind.i64.wrap ((fP f : Int) - 1) = (fP f : Int) - 1 := by rw [IntKind.wrap_i64]; omega
  have hw2 : IntKind.i64.wrap ((fB f : Int) - 1) = (fB f : Int) - 1 := by rw [IntKind.wrap_i64]; omega
  have hbp := fun w => build_parts f (wNeg f m) (wField f m : Nat) (wFrac f m) w
  rw [← hpt] at hbp
  clear hF hm hm2 hmM hhi hle hfrac hgv c1 c2 hpt
  generalize ptC f m = ps at *
  generalize m / 2 ^ (fP f - 1) * 2 ^ (fP f - 1) = hx at *
  generalize m / 2 ^ (fP f - 1) = hi' at *
  generalize wFrac f m = fr at *
  generalize wField f m = fld at *
  generalize wNeg f m = ng at *
  generalize fmC f = cs at *
  go_enter Tryz.func156, Tryz.ntmps156
  go_wp2_with ((first | (refine kg gf169 hst (fun w hst => hfit w (hk.out w hst.keeps)) rfl rfl rfl rfl ?_; clear hst; intro w hst) | (refine kg gf70 hst (fun w hst => hof w (hk.out w hst.keeps)) rfl rfl rfl rfl ?_; clear hst; intro w hst) | (refine kf gf170 hst (hfr) rfl rfl rfl rfl ?_; clear hst; intro w hst) | (refine kf gf87 hst (hshr) rfl rfl rfl rfl ?_; clear hst; intro w hst) | (refine kb 4 hst rfl rfl ?_; clear hst; intro b4 w hb4 hst) | (refine kl hst ta24 rfl ?_) | (refine ka 8 hst tz128 rfl rfl ?_; clear hst; intro b8 w hb8 hst) | (refine kt hst ta128 rfl rfl ?_; clear hst; intro w hst) | (refine ka 10 hst tz44 rfl rfl ?_; clear hst; intro b10 w hb10 hst) | (refine kt hst ta44 rfl rfl ?_; clear hst; intro w hst) | (refine kl hst ta44 rfl ?_) | (refine kc hst tc3 rfl ?_) | (refine ka 11 hst tz44 rfl rfl ?_; clear hst; intro b11 w hb11 hst)); try simp only [pz, pn, sz, sc])
  refine wp_region_T 11  hst (by kernel_rfl) ?_; clear hst; intro w hst; (try simp only [List.length_cons, List.length_nil, Nat.reduceAdd, Array.replicate_succ, Array.replicate_zero, List.push_toArray, List.nil_append, List.cons_append])
  refine r0 2 ?_; simp only [pz, pn, sz, sc, hw1]
  refine rl 0 rfl ?_ (by first | exact ylA ta44 | exact ylM ta44); simp only [pz, pn, sz, sc, hw1]
  refine rl 1 rfl ?_ (by first | exact ylA ta44 | exact ylM ta44); simp only [pz, pn, sz, sc, hw1]
  refine rl 3 rfl ?_ (ylC tc3); simp only [pz, pn, sz, sc, hw1]
  refine r0 4 ?_; simp only [pz, pn, sz, sc, hw1]
  refine r2 5 10 ?_ ?_
  (refine kf gf48 hst (hshl) rfl rfl rfl rfl ?_; clear hst; intro w hst); (try simp only [pz, pn, sz, sc, hw1]); refine re ?_
  refine r2 6 10 ?_ ?_
  (refine kf gf122 hst (hsub) rfl rfl rfl rfl ?_; clear hst; intro w hst); (try simp only [pz, pn, sz, sc, hw1]); refine re ?_
  refine r0 7 ?_; simp only [pz, pn, sz, sc, hw1]
  refine r0 8 ?_; simp only [pz, pn, sz, sc, hw1]
  refine r0 9 ?_; simp only [pz, pn, sz, sc, hw1]
  refine r1 10 ?_; (refine ka 13 hst tz44 rfl rfl ?_; clear hst; intro b13 w hb13 hst); (try simp only [pz, pn, sz, sc, hw1]); refine re ?_
  refine r1 11 ?_; (refine kt hst ta44 rfl rfl ?_; clear hst; intro w hst); (try simp only [pz, pn, sz, sc, hw1]); refine re ?_
  refine r0 12 ?_; simp only [pz, pn, sz, sc, hw1]
  refine rd_ ?_
  rotate_left 1
  (refine ka 13 hst tz44 rfl rfl ?_; clear hst; intro b13 w hb13 hst); (try simp only [pz, pn, sz, sc, hw1]); refine re ?_
  refine r1 6 ?_; (refine kf gf122 hst (hsub) rfl rfl rfl rfl ?_; clear hst; intro w hst); (try simp only [pz, pn, sz, sc, hw1]); refine re ?_
  refine r0 7 ?_; simp only [pz, pn, sz, sc, hw1]
  refine r0 8 ?_; simp only [pz, pn, sz, sc, hw1]
  refine r0 9 ?_; simp only [pz, pn, sz, sc, hw1]
  refine r1 11 ?_; (refine kt hst ta44 rfl rfl ?_; clear hst; intro w hst); (try simp only [pz, pn, sz, sc, hw1]); refine re ?_
  refine r0 12 ?_; simp only [pz, pn, sz, sc, hw1]
  refine rd_ ?_
  rotate_right 1
  rotate_left 2
  (refine ka 13 hst tz44 rfl rfl ?_; clear hst; intro b13 w hb13 hst); (try simp only [pz, pn, sz, sc, hw1]); refine re ?_
  refine r1 5 ?_; (refine kf gf48 hst (hshl) rfl rfl rfl rfl ?_; clear hst; intro w hst); (try simp only [pz, pn, sz, sc, hw1]); refine re ?_
  refine r1 6 ?_; (refine kf gf122 hst (hsub) rfl rfl rfl rfl ?_; clear hst; intro w hst); (try simp only [pz, pn, sz, sc, hw1]); refine re ?_
  refine r0 7 ?_; simp only [pz, pn, sz, sc, hw1]
  refine r0 8 ?_; simp only [pz, pn, sz, sc, hw1]
  refine r0 9 ?_; simp only [pz, pn, sz, sc, hw1]
  refine r1 11 ?_; (refine kt hst ta44 rfl rfl ?_; clear hst; intro w hst); (try simp only [pz, pn, sz, sc, hw1]); refine re ?_
  refine r0 12 ?_; simp only [pz, pn, sz, sc, hw1]
  refine rd_ ?_
  rotate_right 2
  all_goals
    go_wp2_with fail
    refine wp_region_T 9  hst (by kernel_rfl) ?_; clear hst; intro w hst; (try simp only [List.length_cons, List.length_nil, Nat.reduceAdd, Array.replicate_succ, Array.replicate_zero, List.push_toArray, List.nil_append, List.cons_append])
    refine r0 0 ?_; simp only [pz, pn, sz, sc, A1, A2, A3, hfield]
    refine r0 3 ?_; simp only [pz, pn, sz, sc, A1, A2, A3, hfield]
    refine rl 1 rfl ?_ (ylC tc22); simp only [pz, pn, sz, sc, A1, A2, A3, hfield]
    refine r0 2 ?_; simp only [pz, pn, sz, sc, A1, A2, A3, hfield]
    refine rl 4 rfl ?_ (ylC tc3); simp only [pz, pn, sz, sc, A1, A2, A3, hfield]
    refine r0 5 ?_; simp only [pz, pn, sz, sc, A1, A2, A3, hfield]
    refine r0 6 ?_; simp only [pz, pn, sz, sc, A1, A2, A3, hfield]
    refine r0 7 ?_; simp only [pz, pn, sz, sc, A1, A2, A3, hfield]
    refine r0 8 ?_; simp only [pz, pn, sz, sc, A1, A2, A3, hfield]
    refine rd_ ?_
    go_wp2_with fail
    refine wp_region_T 12  hst (by kernel_rfl) ?_; clear hst; intro w hst; (try simp only [List.length_cons, List.length_nil, Nat.reduceAdd, Array.replicate_succ, Array.replicate_zero, List.push_toArray, List.nil_append, List.cons_append])
    refine r0 0 ?_; simp only [pz, pn, sz, sc, hw2]
    refine r0 3 ?_; simp only [pz, pn, sz, sc, hw2]
    refine r0 7 ?_; simp only [pz, pn, sz, sc, hw2]
    refine rl 1 rfl ?_ (by first | exact ylA ta128 | exact ylM ta128); simp only [pz, pn, sz, sc, hw2]
    refine rl 2 rfl ?_ (by first | exact ylA ta44 | exact ylM ta44); simp only [pz, pn, sz, sc, hw2]
    refine rl 4 rfl ?_ (ylC tc3); simp only [pz, pn, sz, sc, hw2]
    refine r0 5 ?_; simp only [pz, pn, sz, sc, hw2]
    refine rl 8 rfl ?_ (by first | exact ylA ta44 | exact ylM ta44); simp only [pz, pn, sz, sc, hw2]
    refine r1 6 ?_; (refine kf gf86 hst (hbit) rfl rfl rfl rfl ?_; clear hst; intro w hst); (try simp only [pz, pn, sz, sc, hw2]); refine re ?_
    refine r0 9 ?_ (hy := yB (hbp)); simp only [pz, pn, sz, sc, hw2]
    refine r1 10 ?_; (refine kg hg hst (fun w hst => hgv'.out w hst.keeps) rfl rfl rfl rfl ?_; clear hst; intro w hst); (try simp only [pz, pn, sz, sc, hw2]); refine re ?_
    refine r0 11 ?_; simp only [pz, pn, sz, sc, hw2]
    refine rd_ ?_
    go_wp2_with fail
    refine bp_t rfl rfl (by rfl) ⟨?_, hst.keeps⟩
    rfl

theorem ask_int_no (f : Nat) (h1 : 1 ≤ f) (h4 : f ≤ 4) (m : Nat) (hm2 : m < M2) (hm : ¬ m < 2 ^ fB f) (g : Value) (w0 : World) (hF : FmtIn w0) : GivesAt Tryz.prog 152 #[.int .i64 f, Wd m, g] (.int .i64 0) w0 := by
  have hst := St.start [] w0
  have hk := Lib.hid (fun w (k : Keeps [] w0 w) => hF.keep k (by simp))
  have hfit := fun w h => format_Fits f h1 h4 m hm2 w h
  rw [decide_eq_false hm] at hfit
  clear hF hm
  go_enter Tryz.func152, Tryz.ntmps152
  go_wp2_with ((first | (refine kg gf169 hst (fun w hst => hfit w (hk.out w hst.keeps)) rfl rfl rfl rfl ?_; clear hst; intro w hst) | (refine kb 4 hst rfl rfl ?_; clear hst; intro b4 w hb4 hst) | (refine kl hst ta24 rfl ?_)); try simp only [pz, pn, sz, sc])
  refine bp_t rfl rfl (by rfl) ⟨?_, hst.keeps⟩
  rfl

end Go.Proofs.YtefpoconpeggpaaGreatDoor.Rd
