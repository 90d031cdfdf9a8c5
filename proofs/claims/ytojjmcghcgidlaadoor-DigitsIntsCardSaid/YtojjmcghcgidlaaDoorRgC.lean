/- What the reference's Int answers. -/
import Derived.Test.YtojjmcghcgidlaaDoorRgA
import Derived.Test.YtojjmcghcgidlaaDoorRdN2
namespace Go.Proofs.YtojjmcghcgidlaaDoor.Rd
open Go Go.RowKit
set_option linter.unusedVariables false
set_option linter.unusedSimpArgs false
set_option maxRecDepth 100000

theorem nv_pos {l : List UInt8} (h : isPlain 10 l = true) (hl : (l == [48]) = false) : 1 ≤ nv 10 l := by
  obtain ⟨hd, hne⟩ := plain_digits h
  rcases l with _ | ⟨c, r⟩
  · exact absurd rfl hne
  · have hc : val c.toNat ≠ 0 := by
      intro h0
      obtain ⟨d1, d2, d3⟩ := val_digit c.toNat (hd c List.mem_cons_self)
      have : c = 48 := by
        apply UInt8.toNat_inj.1
        show c.toNat = 48
        omega
      subst this
      cases r with
      | nil => simp at hl
      | cons e r => simp [isPlain] at h
    have h1 := nvA_mono r (val c.toNat)
    have e : nv 10 (c :: r) = nvA (val c.toNat) r := by rw [← nvA_zero, nvA_cons]; simp
    rw [e]; omega
theorem mag_minus (r : List UInt8) : mag (45 :: r) = r ∧ sgn (45 :: r) = true := ⟨rfl, rfl⟩
theorem mag_plus (c : UInt8) (r : List UInt8) (h : c ≠ 45) : mag (c :: r) = c :: r ∧ sgn (c :: r) = false := by
  have : sgn (c :: r) = false := by
    unfold sgn
    simp only [List.head?_cons]
    rw [beq_eq_false_iff_ne]
    intro e; injection e with e; exact h e
  exact ⟨by unfold mag; rw [this]; rfl, this⟩
theorem M_big : 1000000000000000000000000000000 < M := by decide

/-- What the calls of Int answer, N the number of the digits. -/
theorem int_calls (N : Nat) (hN : N < M) : (∀ w, GivesB Tryd.prog 10 #[W N] N w) ∧ (∀ v w (h : BigAt w v (dl N) N), GivesAt Tryd.prog 21 #[v] (.int .i64 (bl N : Nat)) w) ∧
    (∀ w, GivesB Tryd.prog 36 #[.int .i64 63] 9223372036854775808 w) ∧ (∀ v u w (h : BigAt w v (dl N) N) (h' : BigAt w u (dl 9223372036854775808) 9223372036854775808), GivesAt Tryd.prog 35 #[v, u] (.int .i64 (cmp N 9223372036854775808)) w) := by
  have hd : dl N ≤ 100000 := Nat.le_trans (dl_le.2 (show N < C ^ 16 by rw [← M_C]; exact hN)) (by omega)
  refine ⟨fun w => ref02_Big N hN w, fun v w h => ref01_Len v _ N w h, fun w => ?_, fun v u w h h' => ref01_Cmp v u _ _ N _ w h h' hd (by decide)⟩
  exact ref02_Power 63 (by omega) w

set_option maxHeartbeats 8000000 in
theorem ref04_Int_empty (s : ByteArray) (hs : s.data.toList = []) : Gives Tryd.prog 17 #[.string s] (.tuple #[.int .i64 0, .int .i64 2]) := by
  intro w0
  have hst := St.start [] w0
  have hem : s.toList.isEmpty = true := by rw [toList_data, hs]; rfl
  have hz : s.size = 0 := by
    have : s.size = s.data.toList.length := by simp
    rw [this, hs]; rfl
  have hpl := ref04_plain s 10 (by omega) (by omega)
  rw [hs, show isPlain 10 [] = false from rfl] at hpl
  have hpl' : Gives Tryd.prog 27 #[.string s, .int .i64 10] (.bool false) := hpl
  clear hpl hs hz
  go_enter Tryd.func17, Tryd.ntmps17
  go_wp2_with ((first | (refine kf gf27 hst (hpl') rfl rfl rfl rfl ?_; clear hst; intro w hst) | (refine wl_guard (by rfl) ?_) | (refine ka 6 hst tz24 rfl rfl ?_; clear hst; intro b6 w hb6 hst) | (refine kt hst ta24 rfl rfl ?_; clear hst; intro w hst) | (refine kl hst ta24 rfl ?_) | (refine kc hst tc22 rfl ?_)); try simp only [pz, pn, sz, sc])
  refine bp_tt rfl rfl (by rfl) (by rfl) ⟨?_, hst.keeps⟩
  rfl

set_option maxHeartbeats 16000000 in
theorem ref04_Int_plus (s : ByteArray) (c : UInt8) (r : List UInt8) (hs : s.data.toList = c :: r) (hc : c ≠ 45) (hsz : s.size ≤ 1000) : Gives Tryd.prog 17 #[.string s] (.tuple #[.int .i64 (pint (c :: r)).1, .int .i64 ((pint (c :: r)).2 : Nat)]) := by
  intro w0
  have hst := St.start [] w0
  have hem : s.toList.isEmpty = false := by rw [toList_data, hs]; rfl
  have hv' := Lib.hid (show s.data[0]? = some c by
    have : s.data.toList[0]? = some c := by rw [hs]; rfl
    simpa using this)
  have h45 : ((c.toNat : Int) == 45) = false := by
    rw [beq_eq_false_iff_ne]
    intro h
    apply hc
    apply UInt8.toNat_inj.1
    show c.toNat = 45
    omega
  have hpl : Gives Tryd.prog 27 #[.string s, .int .i64 10] (.bool (isPlain 10 s.data.toList)) := ref04_plain s 10 (by omega) (by omega)
  have hrd : Gives Tryd.prog 13 #[.string s, .int .i64 10] (.tuple #[W (rd 10 s.data.toList).1, .int .i64 ((rd 10 s.data.toList).2 : Nat)]) := ref04_Read s 10 (by omega) (by omega) (by omega)
  have hlen : s.size = (c :: r).length := by rw [← hs]; simp
  rw [hs] at hpl hrd
  obtain ⟨hm, hsg⟩ := mag_plus c r hc
  have epi : pint (c :: r) = pint (c :: r) := rfl
  conv at epi => rhs; unfold pint
  rw [hm, hsg] at epi
  rw [epi]
  clear epi hm hsg hs hc
  generalize c :: r = l at *
  cases hp : isPlain 10 l with
  | false =>
    rw [hp] at hpl
    clear hrd hp hlen
    go_enter Tryd.func17, Tryd.ntmps17
    go_wp2_with ((first | (refine wl_guard (by rfl) ?_; refine wl_strindex (k := .i64) (j := 0) (by kernel_rfl) rfl rfl (by rfl) (by rfl) hv'.out ?_; (try simp only [pz, pn, sz, sc])) | (refine kf gf27 hst (hpl) rfl rfl rfl rfl ?_; clear hst; intro w hst) | (refine wl_guard (by rfl) ?_) | (refine ka 6 hst tz24 rfl rfl ?_; clear hst; intro b6 w hb6 hst) | (refine kt hst ta24 rfl rfl ?_; clear hst; intro w hst) | (refine kl hst ta24 rfl ?_) | (refine kc hst tc22 rfl ?_)); try simp only [pz, pn, sz, sc])
    refine bp_tt rfl rfl (by rfl) (by rfl) ⟨?_, hst.keeps⟩
    rfl
  | true =>
    rw [hp] at hpl
    simp only [Bool.true_and, Bool.not_false, if_true, Bool.false_and, Bool.false_eq_true, if_false]
    by_cases h30 : 30 < s.size
    · have := nv_long hp (by omega)
      rw [if_neg (by omega)]
      have h30' : (30 : Int) < (s.size : Int) := by omega
      clear hrd hp this hlen h30
      go_enter Tryd.func17, Tryd.ntmps17
      go_wp2_with ((first | (refine wl_guard (by rfl) ?_; refine wl_strindex (k := .i64) (j := 0) (by kernel_rfl) rfl rfl (by rfl) (by rfl) hv'.out ?_; (try simp only [pz, pn, sz, sc])) | (refine kf gf27 hst (hpl) rfl rfl rfl rfl ?_; clear hst; intro w hst) | (refine wl_guard (by rfl) ?_) | (refine ka 6 hst tz24 rfl rfl ?_; clear hst; intro b6 w hb6 hst) | (refine kt hst ta24 rfl rfl ?_; clear hst; intro w hst) | (refine kl hst ta24 rfl ?_) | (refine kc hst tc22 rfl ?_)); try simp only [pz, pn, sz, sc])
      refine bp_tt rfl rfl (by rfl) (by rfl) ⟨?_, hst.keeps⟩
      rfl
    · have h30' : ¬ (30 : Int) < (s.size : Int) := by omega
      have hN := nv_short hp (by omega)
      have hNM := Nat.lt_trans hN M_big
      have erd : rd 10 l = (nv 10 l, 0) := by unfold rd; rw [if_pos hp, if_pos hNM]
      rw [erd] at hrd
      simp only at hrd
      obtain ⟨hbig, hlen2, hpow, hcmp⟩ := int_calls (nv 10 l) hNM
      have hbl := @bl_le (nv 10 l) 63
      clear erd hp hNM hN h30 hlen
      generalize nv 10 l = N at *
      by_cases hlt : N < 9223372036854775808
      · rw [if_pos hlt]
        have hb63 : ((bl N : Nat) : Int) ≤ 63 := by have := hbl.2 hlt; omega
        have hNB : N < B := by rw [B_val]; omega
        have hl0 : lb N 0 = N := by rw [lb_zero, Nat.mod_eq_of_lt hNB]
        have hw : IntKind.i64.wrap (N : Int) = (N : Int) := by show _ = _; simp [IntKind.wrap, IntKind.signed, IntKind.bits]; omega
        have hlen := hlen2
        clear hbl hNB hlt
        go_enter Tryd.func17, Tryd.ntmps17
        go_wp2_with ((first | (refine wl_guard (by rfl) ?_; refine wl_strindex (k := .i64) (j := 0) (by kernel_rfl) rfl rfl (by rfl) (by rfl) hv'.out ?_; (try simp only [pz, pn, sz, sc])) | (refine kf gf27 hst (hpl) rfl rfl rfl rfl ?_; clear hst; intro w hst) | (refine kf gf13 hst (hrd) rfl rfl rfl rfl ?_; clear hst; intro w hst) | (refine wl_callB (o := ⟨some 38, _, _, _, _, _⟩) gf10 hst (fun w hst => hbig w) rfl rfl rfl rfl rfl ?_; clear hst; intro v38 Lg38 w hb38 hst; (try simp only [List.cons_append, List.nil_append, List.append_nil, List.append_assoc] at hst); (try simp only [pz, pn, sz, sc])) | (refine kg gf21 hst (fun w hst => hlen _ w (hb38.at hst (fun x h => by simp [h]))) rfl rfl rfl rfl ?_; clear hst; intro w hst) | (refine wl_callB (o := ⟨some 52, _, _, _, _, _⟩) gf36 hst (fun w hst => hpow w) rfl rfl rfl rfl rfl ?_; clear hst; intro v52 Lg52 w hb52 hst; (try simp only [List.cons_append, List.nil_append, List.append_nil, List.append_assoc] at hst); (try simp only [pz, pn, sz, sc])) | (refine kg gf35 hst (fun w hst => hcmp _ _ w (hb38.at hst (fun x h => by simp [h])) (hb52.at hst (fun x h => by simp [h]))) rfl rfl rfl rfl ?_; clear hst; intro w hst) | (refine wl_guard (by rfl) ?_) | (refine ka 6 hst tz24 rfl rfl ?_; clear hst; intro b6 w hb6 hst) | (refine kt hst ta24 rfl rfl ?_; clear hst; intro w hst) | (refine kl hst ta24 rfl ?_) | (refine kc hst tc22 rfl ?_)); try simp only [pz, pn, sz, sc])
        refine bp_tt rfl rfl (by rfl) (by rfl) ⟨?_, hst.keeps⟩
        rfl
      · rw [if_neg hlt]
        have hb63 : ¬ ((bl N : Nat) : Int) ≤ 63 := by intro h; exact hlt (hbl.1 (by omega))
        have hlen := hlen2
        clear hbl hlt
        go_enter Tryd.func17, Tryd.ntmps17
        go_wp2_with ((first | (refine wl_guard (by rfl) ?_; refine wl_strindex (k := .i64) (j := 0) (by kernel_rfl) rfl rfl (by rfl) (by rfl) hv'.out ?_; (try simp only [pz, pn, sz, sc])) | (refine kf gf27 hst (hpl) rfl rfl rfl rfl ?_; clear hst; intro w hst) | (refine kf gf13 hst (hrd) rfl rfl rfl rfl ?_; clear hst; intro w hst) | (refine wl_callB (o := ⟨some 38, _, _, _, _, _⟩) gf10 hst (fun w hst => hbig w) rfl rfl rfl rfl rfl ?_; clear hst; intro v38 Lg38 w hb38 hst; (try simp only [List.cons_append, List.nil_append, List.append_nil, List.append_assoc] at hst); (try simp only [pz, pn, sz, sc])) | (refine kg gf21 hst (fun w hst => hlen _ w (hb38.at hst (fun x h => by simp [h]))) rfl rfl rfl rfl ?_; clear hst; intro w hst) | (refine wl_callB (o := ⟨some 52, _, _, _, _, _⟩) gf36 hst (fun w hst => hpow w) rfl rfl rfl rfl rfl ?_; clear hst; intro v52 Lg52 w hb52 hst; (try simp only [List.cons_append, List.nil_append, List.append_nil, List.append_assoc] at hst); (try simp only [pz, pn, sz, sc])) | (refine kg gf35 hst (fun w hst => hcmp _ _ w (hb38.at hst (fun x h => by simp [h])) (hb52.at hst (fun x h => by simp [h]))) rfl rfl rfl rfl ?_; clear hst; intro w hst) | (refine wl_guard (by rfl) ?_) | (refine ka 6 hst tz24 rfl rfl ?_; clear hst; intro b6 w hb6 hst) | (refine kt hst ta24 rfl rfl ?_; clear hst; intro w hst) | (refine kl hst ta24 rfl ?_) | (refine kc hst tc22 rfl ?_)); try simp only [pz, pn, sz, sc])
        refine bp_tt rfl rfl (by rfl) (by rfl) ⟨?_, hst.keeps⟩
        rfl

end Go.Proofs.YtojjmcghcgidlaaDoor.Rd
