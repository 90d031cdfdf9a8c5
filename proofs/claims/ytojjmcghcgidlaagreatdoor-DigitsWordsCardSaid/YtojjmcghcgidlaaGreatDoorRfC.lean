/- digits.right, Word, ParseWord. -/
import Derived.Test.YtojjmcghcgidlaaGreatDoorRfB
import Derived.Test.YtojjmcghcgidlaaGreatDoorReM
import Derived.Lib.Repeat
import Derived.Lib.TrimByte
namespace Go.Proofs.YtojjmcghcgidlaaGreatDoor.Rd
open Go Go.RowKit
set_option linter.unusedVariables false
set_option linter.unusedSimpArgs false
set_option maxRecDepth 100000

/-- May a word have so many bits? -/
def rightB (n : Int) : Bool := decide (4 ≤ n ∧ n ≤ 128 ∧ n % 4 = 0)
set_option maxHeartbeats 2000000 in
theorem digits_right (n : Int) : Gives Tryz.prog 18 #[.int .i64 n] (.bool (rightB n)) := by
  intro w0
  have hst := St.start [] w0
  by_cases h1 : 4 ≤ n
  · by_cases h2 : n ≤ 128
    · have e1 : n.tmod 4 = n % 4 := Int.tmod_eq_emod_of_nonneg (by omega)
      by_cases h3 : n % 4 = 0
      · have er : rightB n = true := by simp [rightB]; omega
        rw [er]
        have h3' : (n % 4 == 0) = true := by simpa using h3
        clear h3 e1
        go_enter Tryz.func18, Tryz.ntmps18
        go_wp2_with fail
        refine bp_t rfl rfl (by rfl) ⟨?_, hst.keeps⟩
        rfl
      · have er : rightB n = false := by simp [rightB]; omega
        rw [er]
        have h3' : (n % 4 == 0) = false := by simpa using h3
        clear h3 e1
        go_enter Tryz.func18, Tryz.ntmps18
        go_wp2_with fail
        refine bp_t rfl rfl (by rfl) ⟨?_, hst.keeps⟩
        rfl
    · have er : rightB n = false := by simp [rightB]; omega
      rw [er]
      have h2' : ¬ n ≤ 128 := h2
      go_enter Tryz.func18, Tryz.ntmps18
      go_wp2_with fail
      refine bp_t rfl rfl (by rfl) ⟨?_, hst.keeps⟩
      rfl
  · have er : rightB n = false := by simp [rightB]; omega
    rw [er]
    have h1' : ¬ 4 ≤ n := h1
    go_enter Tryz.func18, Tryz.ntmps18
    go_wp2_with fail
    refine bp_t rfl rfl (by rfl) ⟨?_, hst.keeps⟩
    rfl

theorem pow_lt_M (j : Nat) (h : j < 512) : 2 ^ j < M := by
  have key : ∀ k, M = 2 ^ k → j < k → 2 ^ j < M := fun k e h => by rw [e]; exact Nat.pow_lt_pow_right (by omega) h
  exact key (64 * 8) (by rw [M_eq, show B = 2 ^ 64 from rfl, ← Nat.pow_mul]) h
theorem land_lb (a b i : Nat) : lb (a &&& b) i = lb a i &&& lb b i := by
  unfold lb
  rw [show B ^ i = 2 ^ (64 * i) from by rw [show B = 2 ^ 64 from rfl, ← Nat.pow_mul], show B = 2 ^ 64 from rfl, Nat.and_div_two_pow, Nat.and_mod_two_pow]
theorem land_ones (m n : Nat) : m &&& (2 ^ n - 1) = m % 2 ^ n := Nat.and_two_pow_sub_one_eq_mod m n
theorem bits_and64 (a b : Nat) (ha : a < B) (hb : b < B) : bits .and .u64 (a : Int) (b : Int) = ((a &&& b : Nat) : Int) := bits_and_u64_nat a b (by rw [← B_val]; exact ha) (by rw [← B_val]; exact hb)

/-- The digits of a word of so many bits. -/
def wordT (m : Nat) (n : Int) : List UInt8 := if rightB n then txt 16 (m % 2 ^ n.toNat) (n.toNat / 4) else []

theorem rightB_true {n : Int} (h : rightB n = true) : ∃ q : Nat, n = 4 * (q : Int) ∧ 1 ≤ q ∧ q ≤ 32 := by
  simp only [rightB, decide_eq_true_eq] at h
  exact ⟨(n / 4).toNat, by omega, by omega, by omega⟩

theorem txt_pad (d c k j : Nat) (h : c / d ^ k = 0) : txt d c (k + j) = Lib.repeatL [48] j ++ txt d c k := by
  induction j with
  | zero => rfl
  | succ j ih =>
    rw [show k + (j + 1) = (k + j) + 1 from rfl, ← tx_eq, tx_succ, tx_eq, ih]
    have : c / d ^ (k + j) = 0 := by rw [Nat.pow_add, ← Nat.div_div_eq_div_mul, h, Nat.zero_div]
    rw [this, Nat.zero_mod]
    rfl

/-- The number of so many lowest bits is its place by place. -/
theorem mask_lb (m q i : Nat) : lb m i &&& lb (2 ^ q - 1) i = lb (m % 2 ^ q) i := by rw [← land_lb, land_ones]

theorem numDig_le {d n k j : Nat} (hd : 2 ≤ d) (h : NumDig d n k) (hj : 1 ≤ j) (hn : n < d ^ j) : k ≤ j := by
  obtain ⟨h1, h2, h3⟩ := h
  rcases h3 with h3 | h3
  · omega
  · rcases Nat.lt_or_ge j k with h4 | h4
    · exfalso
      apply h3
      apply Nat.div_eq_of_lt
      exact Nat.lt_of_lt_of_le hn (Nat.pow_le_pow_right (by omega) (by omega))
    · exact h4

theorem strings_Repeat (s : ByteArray) (c : Nat) (hc : c ≤ 9223372036854775807) (hlen : s.size * c ≤ 140737488355328) : Gives Tryz.prog 22 #[.string s, .int .i64 c] (.string ⟨(Lib.repeatL s.data.toList c).toArray⟩) :=
  Gives.of_below fun w => Tryz.strings_Repeat s c w hc hlen

set_option maxHeartbeats 4000000 in
theorem digits_Word (m : Nat) (n : Int) (hm : m < M2) (hn0 : -9223372036854775808 ≤ n) (hn1 : n ≤ 9223372036854775807) : Gives Tryz.prog 5 #[Wd m, .int .i64 n] (.string ⟨(wordT m n).toArray⟩) := by
  intro w0
  have hst := St.start [] w0
  have hr := digits_right n
  cases hright : rightB n with
  | false =>
    rw [hright] at hr
    have e : wordT m n = [] := by unfold wordT; rw [hright]; rfl
    rw [e]
    go_enter Tryz.func5, Tryz.ntmps5
    go_wp2_with ((first | (refine kf gf18 hst (hr) rfl rfl rfl rfl ?_; clear hst; intro w hst) | (refine kb 2 hst rfl rfl ?_; clear hst; intro b2 w hb2 hst) | (refine wl_slice1 (o := ⟨some 16, _, _, _, _, _⟩) hst ts66 te22 rfl rfl (by (simp only [eval_lit, eval_k, eval_f, eval_g, List.getD_cons_succ, List.getD_cons_zero]) <;> rfl) (by rfl) ?_; clear hst; intro b16 w hb16 hst) | (refine ka 5 hst tz34 rfl rfl ?_; clear hst; intro b5 w hb5 hst) | (refine kt hst ta34 rfl rfl ?_; clear hst; intro w hst) | (refine kl hst ta24 rfl ?_) | (refine ka 7 hst tz34 rfl rfl ?_; clear hst; intro b7 w hb7 hst) | (refine kc hst tc22 rfl ?_) | (refine ks hst tc22 rfl rfl ?_; clear hst; intro w hst) | (refine kl hst ta34 rfl ?_)); try simp only [pz, pn, sz, sc])
    refine bp_t rfl rfl (by rfl) ⟨?_, hst.keeps⟩
    rfl
  | true =>
    rw [hright] at hr
    obtain ⟨q, rfl, hq1, hq32⟩ := rightB_true hright
    have e : wordT m (4 * (q : Int)) = txt 16 (m % 2 ^ (4 * q)) q := by
      unfold wordT; rw [hright, if_pos rfl, show (4 * (q : Int)).toNat = 4 * q by omega, Nat.mul_div_cancel_left q (by omega)]
    rw [e]
    have hp := wide_Power (4 * (q : Int))
    have ep : pow2 (4 * (q : Int)) = 2 ^ (4 * q) := by unfold pow2; rw [if_pos (by omega), show (4 * (q : Int)).toNat = 4 * q by omega]
    rw [ep] at hp
    have hpM : 2 ^ (4 * q) < M := pow_lt_M _ (by omega)
    have hp1 : 1 ≤ 2 ^ (4 * q) := Nat.one_le_two_pow
    have hM1 : 1 < M := by decide
    have hs := wide_Sub (2 ^ (4 * q)) 1 hpM hM1
    have es : (2 ^ (4 * q) + M - 1) % M = 2 ^ (4 * q) - 1 := by
      rw [show 2 ^ (4 * q) + M - 1 = (2 ^ (4 * q) - 1) + M by omega, Nat.add_mod_right, Nat.mod_eq_of_lt (by omega)]
    rw [es] at hs
    have hof := fun b w h => wide_Of b 0 1 1 1 1 22 (0, 0) (by omega) w h
    rw [Nat.pow_zero, Nat.div_one, show min 1 8 = 1 from rfl, show 1 % B ^ 1 = 1 from rfl] at hof
    have h1' := Lib.hid (wc_1 1 (by decide))
    have hf := wide_From m hm
    obtain ⟨c, hc⟩ : ∃ c, c = m % 2 ^ (4 * q) := ⟨_, rfl⟩
    obtain ⟨p, hpe⟩ : ∃ p, p = 2 ^ (4 * q) - 1 := ⟨_, rfl⟩
    have hmask : ∀ i, lb m i &&& lb p i = lb c i := fun i => by rw [hpe, hc]; exact mask_lb m (4 * q) i
    have hcM : c < M := by rw [hc]; exact Nat.lt_of_lt_of_le (Nat.mod_lt _ (by omega)) (Nat.le_of_lt hpM)
    have hc16 : c < 16 ^ q := by rw [hc, show (16 : Nat) = 2 ^ 4 from rfl, ← Nat.pow_mul]; exact Nat.mod_lt _ (by omega)
    rw [← hpe] at hs
    rw [← hc]
    generalize 2 ^ (4 * q) = P2 at hp hs
    obtain ⟨k, hk⟩ := numDig_exists 16 c (by omega)
    have hkq := numDig_le (by omega) hk hq1 hc16
    have hh := digits_Hex c k hcM hk
    have hlen : (⟨(txt 16 c k).toArray⟩ : ByteArray).size = k := by show (txt 16 c k).toArray.size = k; simp [txt_length]
    have hrep := strings_Repeat ⟨#[48]⟩ (q - k) (by omega) (by show 1 * (q - k) ≤ _; omega)
    have ek : ((q - k : Nat) : Int) = (q : Int) - (k : Int) := by omega
    rw [ek] at hrep
    have hcat := Lib.hid (show (⟨(Lib.repeatL [48] (q - k)).toArray⟩ : ByteArray) ++ ⟨(txt 16 c k).toArray⟩ = ⟨(txt 16 c q).toArray⟩ from by
      rw [show txt 16 c q = txt 16 c (k + (q - k)) by rw [show k + (q - k) = q by omega], txt_pad 16 c k (q - k) hk.2.1]
      apply ByteArray.ext
      simp)
    have eq4 : (4 * (q : Int)).tdiv 4 = (q : Int) := by rw [Int.tdiv_eq_ediv_of_nonneg (by omega)]; omega
    have hsz1 : (⟨(Lib.repeatL [48] (q - k)).toArray⟩ : ByteArray).size + (⟨(txt 16 c k).toArray⟩ : ByteArray).size ≤ 9223372036854775807 := by
      rw [hlen]; show (Lib.repeatL [48] (q - k)).toArray.size + k ≤ _
      rw [List.size_toArray, Lib.repeatL_length]; simp; omega
    have hrep' : Gives Tryz.prog 22 #[.string ⟨#[48]⟩, .int .i64 ((q : Int) - (k : Int))] (.string ⟨(Lib.repeatL [48] (q - k)).toArray⟩) := hrep
    clear hrep e ep es hpM hp1 hc hpe hc16 ek hright
    generalize (⟨(txt 16 c k).toArray⟩ : ByteArray) = sH at hh hlen hcat hsz1
    generalize (⟨(Lib.repeatL [48] (q - k)).toArray⟩ : ByteArray) = sR at hcat hrep' hsz1
    generalize (⟨(txt 16 c q).toArray⟩ : ByteArray) = sW at hcat
    go_enter Tryz.func5, Tryz.ntmps5
    go_wp2_with ((first | (refine kf gf18 hst (hr) rfl rfl rfl rfl ?_; clear hst; intro w hst) | (refine kf gf15 hst (hp) rfl rfl rfl rfl ?_; clear hst; intro w hst) | (refine kg gf20 hst (fun w hst => hof _ w (by rw [← h1'.out]; exact hst.own _ _ (by simp))) rfl rfl rfl rfl ?_; clear hst; intro w hst) | (refine kf gf19 hst (hs) rfl rfl rfl rfl ?_; clear hst; intro w hst) | (refine kf gf21 hst (hf) rfl rfl rfl rfl ?_; clear hst; intro w hst) | (refine kb 2 hst rfl rfl ?_; clear hst; intro b2 w hb2 hst) | (refine wl_slice1 (o := ⟨some 16, _, _, _, _, _⟩) hst ts66 te22 rfl rfl (by (simp only [eval_lit, eval_k, eval_f, eval_g, List.getD_cons_succ, List.getD_cons_zero]) <;> rfl) (by rfl) ?_; clear hst; intro b16 w hb16 hst) | (refine ka 5 hst tz34 rfl rfl ?_; clear hst; intro b5 w hb5 hst) | (refine kt hst ta34 rfl rfl ?_; clear hst; intro w hst) | (refine kl hst ta24 rfl ?_) | (refine ka 7 hst tz34 rfl rfl ?_; clear hst; intro b7 w hb7 hst) | (refine kc hst tc22 rfl ?_) | (refine ks hst tc22 rfl rfl ?_; clear hst; intro w hst) | (refine kl hst ta34 rfl ?_)); try simp only [pz, pn, sz, sc])
    go_loopw [23, 8] (fun i u wr => ∃ (t x : Nat), t ≤ 8 ∧ i = .int .i64 (t : Int) ∧ (∀ j, lb x j = if j < t then lb c j else lb m j) ∧ x < M ∧ St w0 [] [(b7, .cells (wc 8 x) 34), (b5, .cells (wc 8 p) 34)] wr) (fun i _ _ => (8 - intOf i).toNat)
    case atStart => exact ⟨0, m, by omega, rfl, fun j => by simp, Nat.lt_of_lt_of_le hm M2_le, hst.sub (by repeat (first | exact List.Sublist.refl _ | exact List.nil_sublist _ | refine List.Sublist.cons_cons _ ?_ | refine List.Sublist.cons _ ?_))⟩
    case round =>
      clear hst
      obtain ⟨t, x, ht, rfl, hx, hxM, hst⟩ := hrel
      by_cases h8 : t < 8
      · have h0 : (0 : Int) ≤ (t : Int) := by omega
        have h8' : (t : Int) < 8 := by omega
        have hand : bits .and .u64 ((lb x t : Nat) : Int) ((lb p t : Nat) : Int) = ((lb c t : Nat) : Int) := by
          rw [bits_and64 _ _ (lb_lt _ _) (lb_lt _ _), hx t, if_neg (by omega), hmask]
        have hx' := Lib.hid hx
        have hm' := Lib.hid hmask
        clear hx hmask
        go_wp2_with ((first | (refine kb 2 hst rfl rfl ?_; clear hst; intro b2 w hb2 hst) | (refine wl_slice1 (o := ⟨some 16, _, _, _, _, _⟩) hst ts66 te22 rfl rfl (by (simp only [eval_lit, eval_k, eval_f, eval_g, List.getD_cons_succ, List.getD_cons_zero]) <;> rfl) (by rfl) ?_; clear hst; intro b16 w hb16 hst) | (refine ka 5 hst tz34 rfl rfl ?_; clear hst; intro b5 w hb5 hst) | (refine kt hst ta34 rfl rfl ?_; clear hst; intro w hst) | (refine kl hst ta24 rfl ?_) | (refine ka 7 hst tz34 rfl rfl ?_; clear hst; intro b7 w hb7 hst) | (refine kc hst tc22 rfl ?_) | (refine ks hst tc22 rfl rfl ?_; clear hst; intro w hst) | (refine kl hst ta34 rfl ?_)); try simp only [pz, pn, sz, sc])
        refine wp_region_T 8  hst (by kernel_rfl) ?_; clear hst; intro w hst; (try dsimp only [List.length_cons, List.length_nil]); (try simp only [List.length_cons, List.length_nil, Nat.reduceAdd, Array.replicate_succ, Array.replicate_zero, List.push_toArray, List.nil_append, List.cons_append])
        refine r0 0 ?_; simp only [pz, pn, sz, sc]
        refine r0 1 ?_; simp only [pz, pn, sz, sc]
        refine r0 3 ?_; simp only [pz, pn, sz, sc]
        refine r0 4 ?_; simp only [pz, pn, sz, sc]
        refine rl 2 rfl ?_ (ylC tc22); simp only [pz, pn, sz, sc]
        refine rl 5 rfl ?_ (ylC tc22); simp only [pz, pn, sz, sc]
        refine r0 6 ?_; simp only [pz, pn, sz, sc]
        refine r0 7 ?_; simp only [pz, pn, sz, sc]
        refine r1 8 ?_; (refine ks hst tc22 rfl rfl ?_; clear hst; intro w hst); (try simp only [pz, pn, sz, sc]); refine re ?_
        refine rd_ ?_
        rw [wc_setL 8 x t _ (lb_lt _ _)] at hst
        go_wp2_with ((first | (refine kb 2 hst rfl rfl ?_; clear hst; intro b2 w hb2 hst) | (refine wl_slice1 (o := ⟨some 16, _, _, _, _, _⟩) hst ts66 te22 rfl rfl (by (simp only [eval_lit, eval_k, eval_f, eval_g, List.getD_cons_succ, List.getD_cons_zero]) <;> rfl) (by rfl) ?_; clear hst; intro b16 w hb16 hst) | (refine ka 5 hst tz34 rfl rfl ?_; clear hst; intro b5 w hb5 hst) | (refine kt hst ta34 rfl rfl ?_; clear hst; intro w hst) | (refine kl hst ta24 rfl ?_) | (refine ka 7 hst tz34 rfl rfl ?_; clear hst; intro b7 w hb7 hst) | (refine kc hst tc22 rfl ?_) | (refine ks hst tc22 rfl rfl ?_; clear hst; intro w hst) | (refine kl hst ta34 rfl ?_)); try simp only [pz, pn, sz, sc])
        go_roundw
        case rel => exact ⟨t + 1, _, by omega, by go_num, fun j => by rw [lb_setL _ _ _ _ (lb_lt _ _), hx'.out j]; by_cases e : j = t <;> by_cases e2 : j < t <;> simp [e, e2] <;> omega, setL_lt _ _ _ 8 hxM (lb_lt _ _) h8, hst⟩
        case measure => simp [intOf]; omega
      · obtain rfl : t = 8 := by omega
        have hxc : x = c := by
          have := lb_inj (k := 8) (n := x) (m := c) (fun i hi => by rw [hx i, if_pos hi])
          rwa [← M_eq, Nat.mod_eq_of_lt hxM, Nat.mod_eq_of_lt hcM] at this
        subst hxc
        clear hx hmask
        have h8' : ¬ ((8 : Int) < 8) := by omega
        go_wp2_with ((first | (refine kf gf14 hst (hh) rfl rfl rfl rfl ?_; clear hst; intro w hst) | (refine kf gf22 hst (hrep') rfl rfl rfl rfl ?_; clear hst; intro w hst) | (refine wl_concat rfl rfl (by rfl) (by rfl) hsz1 ?_; (try simp only [pz, pn, sz, sc])) | (refine kb 2 hst rfl rfl ?_; clear hst; intro b2 w hb2 hst) | (refine wl_slice1 (o := ⟨some 16, _, _, _, _, _⟩) hst ts66 te22 rfl rfl (by (simp only [eval_lit, eval_k, eval_f, eval_g, List.getD_cons_succ, List.getD_cons_zero]) <;> rfl) (by rfl) ?_; clear hst; intro b16 w hb16 hst) | (refine ka 5 hst tz34 rfl rfl ?_; clear hst; intro b5 w hb5 hst) | (refine kt hst ta34 rfl rfl ?_; clear hst; intro w hst) | (refine kl hst ta24 rfl ?_) | (refine ka 7 hst tz34 rfl rfl ?_; clear hst; intro b7 w hb7 hst) | (refine kc hst tc22 rfl ?_) | (refine ks hst tc22 rfl rfl ?_; clear hst; intro w hst) | (refine kl hst ta34 rfl ?_)); try simp only [pz, pn, sz, sc])
        refine bp_t rfl rfl (by rfl) ⟨?_, hst.keeps⟩
        rw [← hcat.out]; rfl

end Go.Proofs.YtojjmcghcgidlaaGreatDoor.Rd
