/- What the reference's Int answers to a text with a minus. -/
import Derived.Test.YtojjmcghcgidlaaDoorRgC
import Derived.Test.YtojjmcghcgidlaaDoorRdN2
namespace Go.Proofs.YtojjmcghcgidlaaDoor.Rd
open Go Go.RowKit
set_option linter.unusedVariables false
set_option linter.unusedSimpArgs false
set_option maxRecDepth 100000

set_option maxHeartbeats 16000000 in
theorem ref04_Int_minus (s : ByteArray) (r : List UInt8) (hs : s.data.toList = 45 :: r) (hsz : s.size ≤ 1000) : Gives Tryd.prog 17 #[.string s] (.tuple #[.int .i64 (pint (45 :: r)).1, .int .i64 ((pint (45 :: r)).2 : Nat)]) := by
  intro w0
  have hst := St.start [] w0
  have hem : s.toList.isEmpty = false := by rw [toList_data, hs]; rfl
  have hv' := Lib.hid (show s.data[0]? = some 45 by
    have : s.data.toList[0]? = some 45 := by rw [hs]; rfl
    simpa using this)
  have hlen0 : s.size = r.length + 1 := by
    have : s.data.toList.length = s.size := by simp
    rw [← this, hs]; simp
  have h1s : (1 : Int) ≤ (s.size : Int) := by omega
  have hd : (s.extract 1 s.size).data.toList = r := by
    rw [Lib.extract_data, hs, hlen0]
    simp
  have hdl : (s.extract 1 s.size).size = r.length := by rw [← hd]; simp
  obtain ⟨d, hdd⟩ : ∃ d, d = s.extract 1 s.size := ⟨_, rfl⟩
  rw [← hdd] at hd hdl
  have hdd' := Lib.hid hdd
  have hpl : Gives Tryd.prog 27 #[.string d, .int .i64 10] (.bool (isPlain 10 d.data.toList)) := ref04_plain d 10 (by omega) (by omega)
  have hrd : Gives Tryd.prog 13 #[.string d, .int .i64 10] (.tuple #[W (rd 10 d.data.toList).1, .int .i64 ((rd 10 d.data.toList).2 : Nat)]) := ref04_Read d 10 (by omega) (by omega) (by omega)
  have hz : (d.toList == [48]) = (r == [48]) := by rw [toList_data, hd]
  rw [hd] at hpl hrd
  obtain ⟨hm, hsg⟩ := mag_minus r
  have epi : pint (45 :: r) = pint (45 :: r) := rfl
  conv at epi => rhs; unfold pint
  rw [hm, hsg] at epi
  rw [epi]
  clear epi hm hsg hs hd
  rw [hdd] at hpl hrd hz hdl
  clear hdd' hdd
  have hlen0' := Lib.hid hlen0
  clear hlen0 hdl
  cases hp : isPlain 10 r with
  | false =>
    rw [hp] at hpl
    clear hrd hp hz
    go_enter Tryd.func17, Tryd.ntmps17
    go_wp2_with ((first | (refine wl_guard (by rfl) ?_; refine wl_strindex (k := .i64) (j := 0) (by kernel_rfl) rfl rfl (by rfl) (by rfl) hv'.out ?_; (try simp only [pz, pn, sz, sc])) | (refine kf gf27 hst (hpl) rfl rfl rfl rfl ?_; clear hst; intro w hst) | (refine wl_guard (by rfl) ?_) | (refine ka 6 hst tz24 rfl rfl ?_; clear hst; intro b6 w hb6 hst) | (refine kt hst ta24 rfl rfl ?_; clear hst; intro w hst) | (refine kl hst ta24 rfl ?_) | (refine kc hst tc22 rfl ?_)); try simp only [pz, pn, sz, sc])
    refine bp_tt rfl rfl (by rfl) (by rfl) ⟨?_, hst.keeps⟩
    rfl
  | true =>
    rw [hp] at hpl
    cases h48 : r == [48] with
    | true =>
      rw [h48] at hz
      simp only [Bool.true_and, Bool.not_true, Bool.false_eq_true, if_false]
      clear hrd hp h48
      go_enter Tryd.func17, Tryd.ntmps17
      go_wp2_with ((first | (refine wl_guard (by rfl) ?_; refine wl_strindex (k := .i64) (j := 0) (by kernel_rfl) rfl rfl (by rfl) (by rfl) hv'.out ?_; (try simp only [pz, pn, sz, sc])) | (refine kf gf27 hst (hpl) rfl rfl rfl rfl ?_; clear hst; intro w hst) | (refine wl_guard (by rfl) ?_) | (refine ka 6 hst tz24 rfl rfl ?_; clear hst; intro b6 w hb6 hst) | (refine kt hst ta24 rfl rfl ?_; clear hst; intro w hst) | (refine kl hst ta24 rfl ?_) | (refine kc hst tc22 rfl ?_)); try simp only [pz, pn, sz, sc])
      refine bp_tt rfl rfl (by rfl) (by rfl) ⟨?_, hst.keeps⟩
      rfl
    | false =>
      rw [h48] at hz
      simp only [Bool.true_and, Bool.not_false, if_true]
      have hpos := nv_pos hp h48
      clear h48
      by_cases h30 : 30 < r.length
      · have := nv_long hp h30
        rw [if_neg (by omega)]
        have h30' : (30 : Int) < ((s.size - 1 : Nat) : Int) := by have := hlen0'.out; omega
        clear hrd hp this h30 hpos
        go_enter Tryd.func17, Tryd.ntmps17
        go_wp2_with ((first | (refine wl_guard (by rfl) ?_; refine wl_strindex (k := .i64) (j := 0) (by kernel_rfl) rfl rfl (by rfl) (by rfl) hv'.out ?_; (try simp only [pz, pn, sz, sc])) | (refine kf gf27 hst (hpl) rfl rfl rfl rfl ?_; clear hst; intro w hst) | (refine wl_guard (by rfl) ?_) | (refine ka 6 hst tz24 rfl rfl ?_; clear hst; intro b6 w hb6 hst) | (refine kt hst ta24 rfl rfl ?_; clear hst; intro w hst) | (refine kl hst ta24 rfl ?_) | (refine kc hst tc22 rfl ?_)); try simp only [pz, pn, sz, sc])
        refine bp_tt rfl rfl (by rfl) (by rfl) ⟨?_, hst.keeps⟩
        rfl
      · have h30' : ¬ (30 : Int) < ((s.size - 1 : Nat) : Int) := by have := hlen0'.out; omega
        have hN := nv_short hp (by omega)
        have hNM := Nat.lt_trans hN M_big
        have erd : rd 10 r = (nv 10 r, 0) := by unfold rd; rw [if_pos hp, if_pos hNM]
        rw [erd] at hrd
        simp only at hrd
        obtain ⟨hbig, hlen, hpow, hcmp⟩ := int_calls (nv 10 r) hNM
        clear erd hp hNM hN h30
        generalize nv 10 r = N at *
        by_cases hle : N ≤ 9223372036854775808
        · rw [if_pos hle]
          have hcm : cmp N 9223372036854775808 ≤ 0 := by unfold cmp; split; omega; rw [if_neg (by omega)]; omega
          generalize cmp N 9223372036854775808 = cv at *
          have hNB : N < B := by rw [B_val]; omega
          have hl0 : lb N 0 = N := by rw [lb_zero, Nat.mod_eq_of_lt hNB]
          obtain ⟨K, rfl⟩ : ∃ K, N = K + 1 := ⟨N - 1, by omega⟩
          have eK : ((K + 1 : Nat) : Int) = (K : Int) + 1 := by omega
          have hK : K ≤ 9223372036854775807 := by omega
          clear hNB hle
          go_enter Tryd.func17, Tryd.ntmps17
          go_wp2_with ((first | (refine wl_guard (by rfl) ?_; refine wl_strindex (k := .i64) (j := 0) (by kernel_rfl) rfl rfl (by rfl) (by rfl) hv'.out ?_; (try simp only [pz, pn, sz, sc])) | (refine kf gf27 hst (hpl) rfl rfl rfl rfl ?_; clear hst; intro w hst) | (refine kf gf13 hst (hrd) rfl rfl rfl rfl ?_; clear hst; intro w hst) | (refine wl_callB (o := ⟨some 38, _, _, _, _, _⟩) gf10 hst (fun w hst => hbig w) rfl rfl rfl rfl rfl ?_; clear hst; intro v38 Lg38 w hb38 hst; (try simp only [List.cons_append, List.nil_append, List.append_nil, List.append_assoc] at hst); (try simp only [pz, pn, sz, sc])) | (refine kg gf21 hst (fun w hst => hlen _ w (hb38.at hst (fun x h => by simp [h]))) rfl rfl rfl rfl ?_; clear hst; intro w hst) | (refine wl_callB (o := ⟨some 52, _, _, _, _, _⟩) gf36 hst (fun w hst => hpow w) rfl rfl rfl rfl rfl ?_; clear hst; intro v52 Lg52 w hb52 hst; (try simp only [List.cons_append, List.nil_append, List.append_nil, List.append_assoc] at hst); (try simp only [pz, pn, sz, sc])) | (refine kg gf35 hst (fun w hst => hcmp _ _ w (hb38.at hst (fun x h => by simp [h])) (hb52.at hst (fun x h => by simp [h]))) rfl rfl rfl rfl ?_; clear hst; intro w hst) | (refine wl_guard (by rfl) ?_) | (refine ka 6 hst tz24 rfl rfl ?_; clear hst; intro b6 w hb6 hst) | (refine kt hst ta24 rfl rfl ?_; clear hst; intro w hst) | (refine kl hst ta24 rfl ?_) | (refine kc hst tc22 rfl ?_)); try simp only [pz, pn, sz, sc])
          refine bp_tt rfl rfl (by rfl) (by rfl) ⟨?_, hst.keeps⟩
          rw [show -((K : Int) + 1) = -(K : Int) - 1 by omega]; rfl
        · rw [if_neg hle]
          have hcm : ¬ cmp N 9223372036854775808 ≤ 0 := by unfold cmp; rw [if_neg (by omega), if_pos (by omega)]; omega
          generalize cmp N 9223372036854775808 = cv at *
          clear hle
          go_enter Tryd.func17, Tryd.ntmps17
          go_wp2_with ((first | (refine wl_guard (by rfl) ?_; refine wl_strindex (k := .i64) (j := 0) (by kernel_rfl) rfl rfl (by rfl) (by rfl) hv'.out ?_; (try simp only [pz, pn, sz, sc])) | (refine kf gf27 hst (hpl) rfl rfl rfl rfl ?_; clear hst; intro w hst) | (refine kf gf13 hst (hrd) rfl rfl rfl rfl ?_; clear hst; intro w hst) | (refine wl_callB (o := ⟨some 38, _, _, _, _, _⟩) gf10 hst (fun w hst => hbig w) rfl rfl rfl rfl rfl ?_; clear hst; intro v38 Lg38 w hb38 hst; (try simp only [List.cons_append, List.nil_append, List.append_nil, List.append_assoc] at hst); (try simp only [pz, pn, sz, sc])) | (refine kg gf21 hst (fun w hst => hlen _ w (hb38.at hst (fun x h => by simp [h]))) rfl rfl rfl rfl ?_; clear hst; intro w hst) | (refine wl_callB (o := ⟨some 52, _, _, _, _, _⟩) gf36 hst (fun w hst => hpow w) rfl rfl rfl rfl rfl ?_; clear hst; intro v52 Lg52 w hb52 hst; (try simp only [List.cons_append, List.nil_append, List.append_nil, List.append_assoc] at hst); (try simp only [pz, pn, sz, sc])) | (refine kg gf35 hst (fun w hst => hcmp _ _ w (hb38.at hst (fun x h => by simp [h])) (hb52.at hst (fun x h => by simp [h]))) rfl rfl rfl rfl ?_; clear hst; intro w hst) | (refine wl_guard (by rfl) ?_) | (refine ka 6 hst tz24 rfl rfl ?_; clear hst; intro b6 w hb6 hst) | (refine kt hst ta24 rfl rfl ?_; clear hst; intro w hst) | (refine kl hst ta24 rfl ?_) | (refine kc hst tc22 rfl ?_)); try simp only [pz, pn, sz, sc])
          refine bp_tt rfl rfl (by rfl) (by rfl) ⟨?_, hst.keeps⟩
          rfl

end Go.Proofs.YtojjmcghcgidlaaDoor.Rd
