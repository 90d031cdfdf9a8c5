/- The bodies of DigitsDecimal and DigitsRead. -/
import Derived.Test.YtojjmcghcgidlaaDoorReM
namespace Go.Proofs.YtojjmcghcgidlaaDoor.Rd
open Go Go.RowKit
set_option linter.unusedVariables false
set_option linter.unusedSimpArgs false
set_option maxRecDepth 100000

theorem tens_len {n k : Nat} (hn : n < M) (h : NumDig 10 n k) : k ≤ 155 := by
  obtain ⟨h1, h2, h3⟩ := h
  rcases h3 with h | h
  · omega
  · have h4 : 10 ^ (k - 1) ≤ n := by
      rcases Nat.lt_or_ge n (10 ^ (k - 1)) with h' | h'
      · exact absurd (Nat.div_eq_of_lt h') h
      · exact h'
    have h5 : M < 10 ^ 155 := by decide +kernel
    have h6 := (Nat.pow_lt_pow_iff_right (a := 10) (by omega)).1 (Nat.lt_of_le_of_lt h4 (Nat.lt_trans hn h5))
    omega

set_option maxHeartbeats 8000000 in
theorem law_Decimal (n : Nat) (hn : n < M) (w0 : World) (ht : Tab10 w0) : GivesAt Tryd.prog 4 #[W n] (.bool true) w0 := by
  have hst := St.start [] w0
  obtain ⟨k, hk⟩ := numDig_exists 10 n (by omega)
  have hk155 := tens_len hn hk
  have h1 := digits_Decimal n k hn hk
  have h2 := digits_ParseDecimal ⟨(txt 10 n k).toArray⟩
  have hs : (⟨(txt 10 n k).toArray⟩ : ByteArray).size = k := by show (txt 10 n k).toArray.size = k; simp [txt_length]
  have h3 := ref04_Read ⟨(txt 10 n k).toArray⟩ 10 (by omega) (by omega) (by omega)
  rw [show (⟨(txt 10 n k).toArray⟩ : ByteArray).data.toList = txt 10 n k from by simp, rd_txt 10 n k (by omega) (by omega) hk hn] at h2 h3
  have h5 := fun w (k : Keeps [] w0 w) => law_awake w (ht.keep k)
  have hs2 : (⟨(txt 10 n k).toArray⟩ : ByteArray).toList.length = k := by rw [toList_data]; simp [txt_length]
  generalize (⟨(txt 10 n k).toArray⟩ : ByteArray) = s at *
  have g1 : (k : Int) ≤ 155 := by omega
  have g2 : ¬ ((160 : Int) < (k : Int)) := by omega
  clear hk
  go_enter Tryd.func4, Tryd.ntmps4
  go_wp2_with ((first | (refine kf gf12 hst (h1) rfl rfl rfl rfl ?_; clear hst; intro w hst) | (refine kf gf14 hst (h2) rfl rfl rfl rfl ?_; clear hst; intro w hst) | (refine kf gf13 hst (h3) rfl rfl rfl rfl ?_; clear hst; intro w hst) | (refine kg gf11 hst (fun w hst => h5 w hst.keeps) rfl rfl rfl rfl ?_; clear hst; intro w hst) | (refine wl_guard (by rfl) ?_) | (refine kb 1 hst rfl rfl ?_; clear hst; intro b1 w hb1 hst) | (refine kl hst ta24 rfl ?_) | (refine ka 4 hst tz24 rfl rfl ?_; clear hst; intro b4 w hb4 hst) | (refine kt hst ta24 rfl rfl ?_; clear hst; intro w hst) | (refine ka 6 hst tz24 rfl rfl ?_; clear hst; intro b6 w hb6 hst) | (refine wl_eqlW (m := _) (n := _) tr24 tc22 (by kernel_rfl) (by kernel_rfl) rfl rfl (by rfl) (by first | rfl | exact W_zero.symm) (by assumption) (by first | assumption | decide) ?_)); try simp only [pz, pn, sz, sc])
  refine bp_t rfl rfl (by rfl) ⟨?_, hst.keeps⟩
  rfl

theorem rd_lt (base : Nat) (l : List UInt8) : (rd base l).1 < M := by
  have h0 : 0 < M := by decide
  unfold rd
  split
  · split
    · assumption
    · exact h0
  · exact h0

set_option maxHeartbeats 8000000 in
theorem law_Read (s : ByteArray) (w0 : World) (ht : Tab10 w0) : GivesAt Tryd.prog 5 #[.string s] (.bool true) w0 := by
  have hst := St.start [] w0
  have h5 := fun w (k : Keeps [] w0 w) => law_awake w (ht.keep k)
  by_cases hsz : s.size ≤ 200
  · have h1 := digits_ParseHex s
    have h2 := ref04_Read s 16 (by omega) (by omega) (by omega)
    have h3 := digits_ParseDecimal s
    have h4 := ref04_Read s 10 (by omega) (by omega) (by omega)
    have l1 := rd_lt 16 s.data.toList
    have l2 := rd_lt 10 s.data.toList
    generalize (rd 16 s.data.toList) = p at *
    generalize (rd 10 s.data.toList) = q at *
    obtain ⟨p1, p2⟩ := p
    obtain ⟨q1, q2⟩ := q
    simp only at h1 h2 h3 h4 l1 l2
    obtain ⟨N, hN⟩ : ∃ N, s.toList.length = N := ⟨_, rfl⟩
    have hN2 : s.size = N := by rw [← hN, toList_data]; simp
    have g2 : ¬ ((200 : Int) < (N : Int)) := by omega
    clear hsz
    go_enter Tryd.func5, Tryd.ntmps5
    go_wp2_with ((first | (refine kf gf8 hst (h1) rfl rfl rfl rfl ?_; clear hst; intro w hst) | (refine kf gf14 hst (h3) rfl rfl rfl rfl ?_; clear hst; intro w hst) | (refine kf gf13 hst (h2) rfl rfl rfl rfl ?_; clear hst; intro w hst) | (refine kf gf13 hst (h4) rfl rfl rfl rfl ?_; clear hst; intro w hst) | (refine kg gf11 hst (fun w hst => h5 w hst.keeps) rfl rfl rfl rfl ?_; clear hst; intro w hst) | (refine wl_guard (by rfl) ?_) | (refine ka 3 hst tz24 rfl rfl ?_; clear hst; intro b3 w hb3 hst) | (refine kt hst ta24 rfl rfl ?_; clear hst; intro w hst) | (refine ka 5 hst tz24 rfl rfl ?_; clear hst; intro b5 w hb5 hst) | (refine ka 7 hst tz24 rfl rfl ?_; clear hst; intro b7 w hb7 hst) | (refine ka 9 hst tz24 rfl rfl ?_; clear hst; intro b9 w hb9 hst) | (refine kl hst ta24 rfl ?_) | (refine wl_eqlW (m := _) (n := _) tr24 tc22 (by kernel_rfl) (by kernel_rfl) rfl rfl (by rfl) (by first | rfl | exact W_zero.symm) (by assumption) (by first | assumption | decide) ?_)); try simp only [pz, pn, sz, sc])
    refine bp_t rfl rfl (by rfl) ⟨?_, hst.keeps⟩
    rfl
  · obtain ⟨N, hN⟩ : ∃ N, s.toList.length = N := ⟨_, rfl⟩
    have hN2 : s.size = N := by rw [← hN, toList_data]; simp
    have g2 : ((200 : Int) < (N : Int)) := by omega
    clear hsz
    go_enter Tryd.func5, Tryd.ntmps5
    go_wp2_with ((first | (refine kg gf11 hst (fun w hst => h5 w hst.keeps) rfl rfl rfl rfl ?_; clear hst; intro w hst) | (refine wl_guard (by rfl) ?_) | (refine ka 3 hst tz24 rfl rfl ?_; clear hst; intro b3 w hb3 hst) | (refine kt hst ta24 rfl rfl ?_; clear hst; intro w hst) | (refine ka 5 hst tz24 rfl rfl ?_; clear hst; intro b5 w hb5 hst) | (refine ka 7 hst tz24 rfl rfl ?_; clear hst; intro b7 w hb7 hst) | (refine ka 9 hst tz24 rfl rfl ?_; clear hst; intro b9 w hb9 hst) | (refine kl hst ta24 rfl ?_) | (refine wl_eqlW (m := _) (n := _) tr24 tc22 (by kernel_rfl) (by kernel_rfl) rfl rfl (by rfl) (by first | rfl | exact W_zero.symm) (by assumption) (by first | assumption | decide) ?_)); try simp only [pz, pn, sz, sc])
    refine bp_t rfl rfl (by rfl) ⟨?_, hst.keeps⟩
    rfl

end Go.Proofs.YtojjmcghcgidlaaDoor.Rd
