/- A number's text is read as the number; the laws' bodies. -/
import Derived.Test.YtojjmcghcgidlaaDoorReL
import Derived.Test.YtojjmcghcgidlaaDoorRdV
namespace Go.Proofs.YtojjmcghcgidlaaDoor.Rd
open Go Go.RowKit
set_option linter.unusedVariables false
set_option linter.unusedSimpArgs false
set_option maxRecDepth 100000

theorem val_hexu : ∀ d : Nat, d < 16 → val (hexu d).toNat = d := by decide +kernel
theorem hexu_zero : ∀ d : Nat, d < 16 → d ≠ 0 → hexu d ≠ 48 := by decide +kernel
theorem txt_get? (d n k j : Nat) (h : j < k) : (txt d n k)[j]? = some (hexu (n / d ^ (k - 1 - j) % d)) := by simp [txt, h]
theorem nv_txt (d n k : Nat) (hd : 2 ≤ d) (hd16 : d ≤ 16) (h : n / d ^ k = 0) : nv d (txt d n k) = n := by
  have key : ∀ j, j ≤ k → nv d ((txt d n k).take j) = n / d ^ (k - j) := by
    intro j
    induction j with
    | zero => intro _; rw [Nat.sub_zero, h]; simp [nv]
    | succ j ih =>
      intro hj
      rw [nv_take d _ j _ (txt_get? d n k j (by omega)), ih (by omega), val_hexu _ (by have := Nat.mod_lt (n / d ^ (k - 1 - j)) (show 0 < d by omega); omega)]
      have e1 : k - j = k - 1 - j + 1 := by omega
      have e2 : k - (j + 1) = k - 1 - j := by omega
      rw [e1, e2, Nat.pow_succ, ← Nat.div_div_eq_div_mul, Nat.mul_comm]
      exact Nat.div_add_mod _ _
  have := key k (Nat.le_refl _)
  rw [Nat.sub_self, Nat.pow_zero, Nat.div_one] at this
  have e : (txt d n k).take k = txt d n k := List.take_of_length_le (by rw [txt_length]; exact Nat.le_refl _)
  rw [e] at this
  exact this
theorem plain_txt (d n k : Nat) (hd : 2 ≤ d) (hd16 : d ≤ 16) (h : NumDig d n k) : isPlain d (txt d n k) = true := by
  obtain ⟨h1, h2, h3⟩ := h
  have hall : ((txt d n k).all fun c => decide (val c.toNat < d)) = true := by
    rw [List.all_eq_true]
    intro c hc
    obtain ⟨j, hj, rfl⟩ := List.mem_iff_getElem.1 hc
    rw [txt_get]
    have hlt := Nat.mod_lt (n / d ^ (k - 1 - j)) (show 0 < d by omega)
    rw [val_hexu _ (by omega)]
    simpa using hlt
  obtain ⟨m, rfl⟩ : ∃ m, k = m + 1 := ⟨k - 1, by omega⟩
  have hcons : txt d n (m + 1) = hexu (n / d ^ m % d) :: txt d n m := tx_succ d n m
  rcases m with _ | m
  · rw [hcons] at hall ⊢
    have e0 : txt d n 0 = [] := rfl
    rw [e0] at hall ⊢
    generalize hexu _ = c at *
    unfold isPlain
    rw [hall]
    by_cases hc : c = 48
    · subst hc; rfl
    · simp [hc]
  · have hne : n / d ^ (m + 1) ≠ 0 := by rcases h3 with h | h; omega; simpa using h
    have hlt : n / d ^ (m + 1) < d := by
      rw [Nat.div_lt_iff_lt_mul (Nat.pow_pos (by omega)), ← Nat.pow_succ']
      exact (Nat.div_eq_zero_iff_lt (Nat.pow_pos (by omega))).1 h2
    rw [Nat.mod_eq_of_lt hlt] at hcons
    have hc := hexu_zero _ (by omega : n / d ^ (m + 1) < 16) hne
    rw [hcons] at hall ⊢
    generalize hexu _ = c at *
    unfold isPlain
    rw [hall, Bool.eq_iff_iff]
    simp [hc]
theorem rd_txt (d n k : Nat) (hd : 2 ≤ d) (hd16 : d ≤ 16) (h : NumDig d n k) (hn : n < M) : rd d (txt d n k) = (n, 0) := by
  unfold rd
  rw [plain_txt d n k hd hd16 h, if_pos rfl, nv_txt d n k hd hd16 h.2.1, if_pos hn]

set_option maxHeartbeats 8000000 in
theorem law_Hex (n : Nat) (hn : n < M) (w0 : World) (ht : Tab10 w0) : GivesAt Tryd.prog 3 #[W n] (.bool true) w0 := by
  have hst := St.start [] w0
  obtain ⟨k, hk⟩ := numDig_exists 16 n (by omega)
  have h1 := digits_Hex n k hn hk
  have h2 := digits_ParseHex ⟨(txt 16 n k).toArray⟩
  rw [show (⟨(txt 16 n k).toArray⟩ : ByteArray).data.toList = txt 16 n k from by simp, rd_txt 16 n k (by omega) (by omega) hk hn] at h2
  have h3 := fun w => ref02_Big n hn w
  have hnC : n < C ^ 16 := by rw [← M_C]; exact hn
  have h4 := fun v w (h : BigAt w v (dl n) n) => ref04_Hex v n k hk 16 (by omega) hnC w h
  have h5 := fun w (k : Keeps [] w0 w) => law_awake w (ht.keep k)
  generalize (⟨(txt 16 n k).toArray⟩ : ByteArray) = s at *
  clear hnC hk
  go_enter Tryd.func3, Tryd.ntmps3
  go_wp2_with ((first | (refine kf gf7 hst (h1) rfl rfl rfl rfl ?_; clear hst; intro w hst) | (refine kf gf8 hst (h2) rfl rfl rfl rfl ?_; clear hst; intro w hst) | (refine wl_callB (o := ⟨some 15, _, _, _, _, _⟩) gf10 hst (fun w hst => h3 w) rfl rfl rfl rfl rfl ?_; clear hst; intro v15 Lg15 w hb15 hst; (try simp only [List.cons_append, List.nil_append, List.append_nil, List.append_assoc] at hst); (try simp only [pz, pn, sz, sc])) | (refine kg gf9 hst (fun w hst => h4 _ w (hb15.at hst (fun x h => by simp [h]))) rfl rfl rfl rfl ?_; clear hst; intro w hst) | (refine kg gf11 hst (fun w hst => h5 w hst.keeps) rfl rfl rfl rfl ?_; clear hst; intro w hst) | (refine wl_guard (by rfl) ?_) | (refine kb 1 hst rfl rfl ?_; clear hst; intro b1 w hb1 hst) | (refine kl hst ta24 rfl ?_) | (refine ka 4 hst tz24 rfl rfl ?_; clear hst; intro b4 w hb4 hst) | (refine kt hst ta24 rfl rfl ?_; clear hst; intro w hst) | (refine wl_eqlW (m := _) (n := _) tr24 tc22 (by kernel_rfl) (by kernel_rfl) rfl rfl (by rfl) (by first | rfl | exact W_zero.symm) (by assumption) (by first | assumption | decide) ?_)); try simp only [pz, pn, sz, sc])
  refine bp_t rfl rfl (by rfl) ⟨?_, hst.keeps⟩
  rfl

end Go.Proofs.YtojjmcghcgidlaaDoor.Rd
