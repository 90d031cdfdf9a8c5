/- The body of the law DigitsWords. -/
import Derived.Test.YtojjmcghcgidlaaGreatDoorRfE
import Derived.Test.YtojjmcghcgidlaaGreatDoorRfD
namespace Go.Proofs.YtojjmcghcgidlaaGreatDoor.Rd
open Go Go.RowKit
set_option linter.unusedVariables false
set_option linter.unusedSimpArgs false
set_option maxRecDepth 100000

theorem W_word (m : Nat) (hm : m < M2) : W m = .agg #[.int .u64 (lb m 0 : Nat), .int .u64 (lb m 1 : Nat), .int .u64 0, .int .u64 0, .int .u64 0, .int .u64 0, .int .u64 0, .int .u64 0] := by
  unfold W
  congr 1
  apply Array.ext_getElem?
  intro i
  have hz : ∀ j, 2 ≤ j → lb m j = 0 := fun j hj => lb_lt_of (k := 2) hm hj
  rcases Nat.lt_or_ge i 8 with h | h
  · rw [wc_get 8 m i h]
    have : i = 0 ∨ i = 1 ∨ i = 2 ∨ i = 3 ∨ i = 4 ∨ i = 5 ∨ i = 6 ∨ i = 7 := by omega
    rcases this with rfl | rfl | rfl | rfl | rfl | rfl | rfl | rfl
    · rfl
    · rfl
    all_goals (rw [hz _ (by omega)]; rfl)
  · rw [Array.getElem?_eq_none (by simp; omega), Array.getElem?_eq_none (by simp; omega)]

/-- A text without noughts at the front, as long as it has more than one sign. -/
def strip : List UInt8 → List UInt8
  | c :: d :: l => if c = 48 then strip (d :: l) else c :: d :: l
  | l => l
theorem trimLeftB_cons (c : UInt8) (l : List UInt8) : Lib.trimLeftB (c :: l) 48 = if c = 48 then Lib.trimLeftB l 48 else c :: l := by
  unfold Lib.trimLeftB
  rw [List.dropWhile_cons]
  by_cases h : c = 48
  · rw [if_pos h, if_pos (by simpa using h)]
  · rw [if_neg h, if_neg (by simpa using h)]
theorem strip_short : ∀ l : List UInt8, l ≠ [] → strip l = shortL l
  | [], h => absurd rfl h
  | [c], _ => by
    unfold shortL
    rw [trimLeftB_cons]
    by_cases h : c = 48
    · subst h; rfl
    · rw [if_neg h, if_neg (by simp)]; rfl
  | c :: d :: l, _ => by
    unfold strip
    by_cases h : c = 48
    · rw [if_pos h, strip_short (d :: l) (by simp)]
      unfold shortL
      rw [trimLeftB_cons c, if_pos h]
    · rw [if_neg h]
      unfold shortL
      rw [trimLeftB_cons c, if_neg h, if_neg (by simp)]

/-- A number's digits, noughts at the front put before it, are read as the number. -/
theorem shortL_pad (j : Nat) (l : List UInt8) (h : l ≠ []) (h0 : isPlain 16 l = true) : shortL (Lib.repeatL [48] j ++ l) = l := by
  induction j with
  | zero =>
    show shortL l = l
    cases l with
    | nil => exact absurd rfl h
    | cons c l =>
      unfold shortL
      rw [trimLeftB_cons]
      by_cases hc : c = 48
      · subst hc
        have : l = [] := by
          cases l with
          | nil => rfl
          | cons d l => simp [isPlain] at h0
        subst this; rfl
      · rw [if_neg hc, if_neg (by simp)]
  | succ j ih =>
    have key : ∀ x : List UInt8, shortL (48 :: x) = shortL x := fun x => by unfold shortL; rw [trimLeftB_cons, if_pos rfl]
    exact (key _).trans ih

theorem pw_wordT (m : Nat) (n : Int) (h : rightB n = true) : pw (wordT m n) n = (m % 2 ^ n.toNat % M2, 0) := by
  obtain ⟨q, rfl, hq1, hq32⟩ := rightB_true h
  unfold pw wordT
  rw [if_pos h, if_pos h, show (4 * (q : Int)).toNat = 4 * q by omega, show (4 * (q : Int) / 4).toNat = q by omega, Nat.mul_div_cancel_left q (by omega)]
  obtain ⟨c, hc⟩ : ∃ c, c = m % 2 ^ (4 * q) := ⟨_, rfl⟩
  rw [← hc]
  have hc16 : c < 16 ^ q := by rw [hc, show (16 : Nat) = 2 ^ 4 from rfl, ← Nat.pow_mul]; exact Nat.mod_lt _ (Nat.pow_pos (by omega))
  obtain ⟨k, hk⟩ := numDig_exists 16 c (by omega)
  have hkq := numDig_le (by omega) hk hq1 hc16
  have hcM : c < M := by rw [hc]; exact Nat.lt_trans (Nat.mod_lt _ (Nat.pow_pos (by omega))) (pow_lt_M _ (by omega))
  have hne : txt 16 c k ≠ [] := fun e => by
    have := congrArg List.length e
    rw [txt_length] at this
    have := hk.1
    simp at *
    omega
  have e1 : shortL (txt 16 c q) = txt 16 c k := by
    rw [show txt 16 c q = txt 16 c (k + (q - k)) by rw [show k + (q - k) = q by omega], txt_pad 16 c k (q - k) hk.2.1]
    exact shortL_pad _ _ hne (plain_txt 16 c k (by omega) (by omega) hk)
  rw [e1, rd_txt 16 c k (by omega) (by omega) hk hcM, if_pos ⟨by rw [txt_length], rfl⟩]

theorem awake_at {w0 : World} (ht : Tab10 w0) : ∀ w, Keeps [] w0 w → GivesAt Tryz.prog 4 #[] (.bool true) w := fun w k => law_awake w (ht.keep k)

set_option maxHeartbeats 8000000 in
theorem law_Words_wrong (m : Nat) (n : Int) (s : ByteArray) (hm : m < M2) (hn0 : -9223372036854775808 ≤ n) (hn1 : n ≤ 9223372036854775807) (hs : s.size ≤ 100) (hr : rightB n = false) (w0 : World) (ht : Tab10 w0) :
    GivesAt Tryz.prog 3 #[Wd m, .int .i64 n, .string s] (.bool true) w0 := by
  have hst := St.start [] w0
  have h1 := digits_Word m n hm hn0 hn1
  have e1 : wordT m n = [] := by unfold wordT; rw [hr]; rfl
  rw [e1] at h1
  have h2 := digits_ParseWord ⟨[].toArray⟩ n (by show 0 ≤ _; omega)
  have h3 := digits_ParseWord s n (by omega)
  have e2 : ∀ l, pw l n = (0, 1) := fun l => by unfold pw; rw [hr]; rfl
  rw [e2] at h2 h3
  have h5 := awake_at ht
  have hsz : ¬ ((100 : Int) < (s.size : Int)) := by omega
  have hem : (⟨[].toArray⟩ : ByteArray).toList.isEmpty = true := by rw [str_empty]; rfl
  have z0 : 0 < M2 := by decide
  generalize (⟨[].toArray⟩ : ByteArray) = t at h1 h2 hem
  clear e1 e2
  by_cases c1 : n < 4
  · clear hr
    go_enter Tryz.func3, Tryz.ntmps3
    go_wp2_with ((first | (refine kf gf5 hst (h1) rfl rfl rfl rfl ?_; clear hst; intro w hst) | (refine kf gf6 hst (h2) rfl rfl rfl rfl ?_; clear hst; intro w hst) | (refine kf gf6 hst (h3) rfl rfl rfl rfl ?_; clear hst; intro w hst) | (refine kg gf4 hst (fun w hst => h5 w hst.keeps) rfl rfl rfl rfl ?_; clear hst; intro w hst) | (refine wl_guard (by rfl) ?_) | (refine kb 3 hst rfl rfl ?_; clear hst; intro b3 w hb3 hst) | (refine kl hst ta24 rfl ?_) | (refine ka 8 hst tz24 rfl rfl ?_; clear hst; intro b8 w hb8 hst) | (refine kt hst ta24 rfl rfl ?_; clear hst; intro w hst) | (refine ka 10 hst tz24 rfl rfl ?_; clear hst; intro b10 w hb10 hst) | (refine wl_eqlS (m := _) (n := _) tf24 tc22 (by kernel_rfl) (by kernel_rfl) rfl rfl (by rfl) (by first | rfl | exact Wd_zero.symm) (by assumption) (by first | assumption | decide) ?_) | (refine kc hst tc22 rfl ?_) | (refine ka 15 hst tz34 rfl rfl ?_; clear hst; intro b15 w hb15 hst) | (refine kt hst ta34 rfl rfl ?_; clear hst; intro w hst) | (refine wl_neqS (m := _) (n := _) tf24 tc22 (by kernel_rfl) (by kernel_rfl) rfl rfl (by rfl) (by first | rfl | exact Wd_zero.symm) (by assumption) (by first | assumption | decide) ?_) | (refine ka 18 hst tz34 rfl rfl ?_; clear hst; intro b18 w hb18 hst)); try simp only [pz, pn, sz, sc])
    refine bp_t rfl rfl (by rfl) ⟨?_, hst.keeps⟩
    rfl
  · by_cases c2 : 128 < n
    · clear hr
      go_enter Tryz.func3, Tryz.ntmps3
      go_wp2_with ((first | (refine kf gf5 hst (h1) rfl rfl rfl rfl ?_; clear hst; intro w hst) | (refine kf gf6 hst (h2) rfl rfl rfl rfl ?_; clear hst; intro w hst) | (refine kf gf6 hst (h3) rfl rfl rfl rfl ?_; clear hst; intro w hst) | (refine kg gf4 hst (fun w hst => h5 w hst.keeps) rfl rfl rfl rfl ?_; clear hst; intro w hst) | (refine wl_guard (by rfl) ?_) | (refine kb 3 hst rfl rfl ?_; clear hst; intro b3 w hb3 hst) | (refine kl hst ta24 rfl ?_) | (refine ka 8 hst tz24 rfl rfl ?_; clear hst; intro b8 w hb8 hst) | (refine kt hst ta24 rfl rfl ?_; clear hst; intro w hst) | (refine ka 10 hst tz24 rfl rfl ?_; clear hst; intro b10 w hb10 hst) | (refine wl_eqlS (m := _) (n := _) tf24 tc22 (by kernel_rfl) (by kernel_rfl) rfl rfl (by rfl) (by first | rfl | exact Wd_zero.symm) (by assumption) (by first | assumption | decide) ?_) | (refine kc hst tc22 rfl ?_) | (refine ka 15 hst tz34 rfl rfl ?_; clear hst; intro b15 w hb15 hst) | (refine kt hst ta34 rfl rfl ?_; clear hst; intro w hst) | (refine wl_neqS (m := _) (n := _) tf24 tc22 (by kernel_rfl) (by kernel_rfl) rfl rfl (by rfl) (by first | rfl | exact Wd_zero.symm) (by assumption) (by first | assumption | decide) ?_) | (refine ka 18 hst tz34 rfl rfl ?_; clear hst; intro b18 w hb18 hst)); try simp only [pz, pn, sz, sc])
      refine bp_t rfl rfl (by rfl) ⟨?_, hst.keeps⟩
      rfl
    · have c3 : (n % 4 != 0) = true := by
        simp only [rightB, decide_eq_false_iff_not] at hr
        simp only [bne_iff_ne, ne_eq]
        omega
      clear hr
      go_enter Tryz.func3, Tryz.ntmps3
      go_wp2_with ((first | (refine kf gf5 hst (h1) rfl rfl rfl rfl ?_; clear hst; intro w hst) | (refine kf gf6 hst (h2) rfl rfl rfl rfl ?_; clear hst; intro w hst) | (refine kf gf6 hst (h3) rfl rfl rfl rfl ?_; clear hst; intro w hst) | (refine kg gf4 hst (fun w hst => h5 w hst.keeps) rfl rfl rfl rfl ?_; clear hst; intro w hst) | (refine wl_guard (by rfl) ?_) | (refine kb 3 hst rfl rfl ?_; clear hst; intro b3 w hb3 hst) | (refine kl hst ta24 rfl ?_) | (refine ka 8 hst tz24 rfl rfl ?_; clear hst; intro b8 w hb8 hst) | (refine kt hst ta24 rfl rfl ?_; clear hst; intro w hst) | (refine ka 10 hst tz24 rfl rfl ?_; clear hst; intro b10 w hb10 hst) | (refine wl_eqlS (m := _) (n := _) tf24 tc22 (by kernel_rfl) (by kernel_rfl) rfl rfl (by rfl) (by first | rfl | exact Wd_zero.symm) (by assumption) (by first | assumption | decide) ?_) | (refine kc hst tc22 rfl ?_) | (refine ka 15 hst tz34 rfl rfl ?_; clear hst; intro b15 w hb15 hst) | (refine kt hst ta34 rfl rfl ?_; clear hst; intro w hst) | (refine wl_neqS (m := _) (n := _) tf24 tc22 (by kernel_rfl) (by kernel_rfl) rfl rfl (by rfl) (by first | rfl | exact Wd_zero.symm) (by assumption) (by first | assumption | decide) ?_) | (refine ka 18 hst tz34 rfl rfl ?_; clear hst; intro b18 w hb18 hst)); try simp only [pz, pn, sz, sc])
      refine bp_t rfl rfl (by rfl) ⟨?_, hst.keeps⟩
      rfl

set_option maxHeartbeats 8000000 in
theorem law_Words_long (m : Nat) (n : Int) (s : ByteArray) (hs : 100 < s.size) (w0 : World) (ht : Tab10 w0) : GivesAt Tryz.prog 3 #[Wd m, .int .i64 n, .string s] (.bool true) w0 := by
  have hst := St.start [] w0
  have h5 := awake_at ht
  have hsz : (100 : Int) < (s.size : Int) := by omega
  go_enter Tryz.func3, Tryz.ntmps3
  go_wp2_with ((first | (refine kg gf4 hst (fun w hst => h5 w hst.keeps) rfl rfl rfl rfl ?_; clear hst; intro w hst) | (refine wl_guard (by rfl) ?_) | (refine kb 3 hst rfl rfl ?_; clear hst; intro b3 w hb3 hst) | (refine kl hst ta24 rfl ?_) | (refine ka 8 hst tz24 rfl rfl ?_; clear hst; intro b8 w hb8 hst) | (refine kt hst ta24 rfl rfl ?_; clear hst; intro w hst) | (refine ka 10 hst tz24 rfl rfl ?_; clear hst; intro b10 w hb10 hst) | (refine wl_eqlS (m := _) (n := _) tf24 tc22 (by kernel_rfl) (by kernel_rfl) rfl rfl (by rfl) (by first | rfl | exact Wd_zero.symm) (by assumption) (by first | assumption | decide) ?_) | (refine kc hst tc22 rfl ?_) | (refine ka 15 hst tz34 rfl rfl ?_; clear hst; intro b15 w hb15 hst) | (refine kt hst ta34 rfl rfl ?_; clear hst; intro w hst) | (refine wl_neqS (m := _) (n := _) tf24 tc22 (by kernel_rfl) (by kernel_rfl) rfl rfl (by rfl) (by first | rfl | exact Wd_zero.symm) (by assumption) (by first | assumption | decide) ?_) | (refine ka 18 hst tz34 rfl rfl ?_; clear hst; intro b18 w hb18 hst)); try simp only [pz, pn, sz, sc])
  refine bp_t rfl rfl (by rfl) ⟨?_, hst.keeps⟩
  rfl

end Go.Proofs.YtojjmcghcgidlaaGreatDoor.Rd
