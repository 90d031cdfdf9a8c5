/- The law DigitsWords at a right number of bits. -/
import Derived.Test.YtojjmcghcgidlaaGreatDoorRfF
namespace Go.Proofs.YtojjmcghcgidlaaGreatDoor.Rd
open Go Go.RowKit
set_option linter.unusedVariables false
set_option linter.unusedSimpArgs false
set_option maxRecDepth 100000

theorem tx_length (d n j : Nat) : (tx d n j).length = j := by simp [tx]
theorem mk_toList (s : ByteArray) (l : List UInt8) (h : s.data.toList = l) : s = ⟨l.toArray⟩ := by
  apply ByteArray.ext
  rw [← h]
theorem strip_two (c d : UInt8) (l : List UInt8) (h : c = 48) : strip (c :: d :: l) = strip (d :: l) := by
  conv => lhs; unfold strip
  rw [if_pos h]
theorem strip_same (c d : UInt8) (l : List UInt8) (h : c ≠ 48) : strip (c :: d :: l) = c :: d :: l := by
  conv => lhs; unfold strip
  rw [if_neg h]

set_option maxHeartbeats 16000000 in
theorem law_Words_right (m : Nat) (q : Nat) (s : ByteArray) (hm : m < M2) (hq1 : 1 ≤ q) (hq32 : q ≤ 32) (hs : s.size ≤ 100) (hr : rightB (4 * (q : Int)) = true) (w0 : World) (ht : Tab10 w0) :
    GivesAt Tryz.prog 3 #[Wd m, .int .i64 (4 * (q : Int)), .string s] (.bool true) w0 := by
  have hst := St.start [] w0
  have h1 := digits_Word m (4 * (q : Int)) hm (by omega) (by omega)
  have e1 : wordT m (4 * (q : Int)) = txt 16 (m % 2 ^ (4 * q)) q := by
    unfold wordT; rw [hr, if_pos rfl, show (4 * (q : Int)).toNat = 4 * q by omega, Nat.mul_div_cancel_left q (by omega)]
  have h2 := digits_ParseWord ⟨(wordT m (4 * (q : Int))).toArray⟩ (4 * (q : Int)) (by rw [e1]; show (txt 16 _ q).toArray.size ≤ _; rw [List.size_toArray, txt_length]; omega)
  rw [show (⟨(wordT m (4 * (q : Int))).toArray⟩ : ByteArray).data.toList = wordT m (4 * (q : Int)) from by simp, pw_wordT m _ hr, show (4 * (q : Int)).toNat = 4 * q by omega] at h2
  have h3 := digits_ParseWord s (4 * (q : Int)) (by omega)
  have h5 := awake_at ht
  obtain ⟨c, hc⟩ : ∃ c, c = m % 2 ^ (4 * q) := ⟨_, rfl⟩
  have hP : 0 < 2 ^ (4 * q) := Nat.pow_pos (by omega)
  have hcm : c ≤ m := by rw [hc]; exact Nat.mod_le _ _
  have hc2 : c < M2 := Nat.lt_of_le_of_lt hcm hm
  have hc16 : c < 16 ^ q := by rw [hc, show (16 : Nat) = 2 ^ 4 from rfl, ← Nat.pow_mul]; exact Nat.mod_lt _ (Nat.pow_pos (by omega))
  have hcM : c < M := Nat.lt_of_lt_of_le hc2 M2_le
  have hmM : m < M := Nat.lt_of_lt_of_le hm M2_le
  rw [e1, ← hc] at h1
  rw [e1, ← hc, Nat.mod_eq_of_lt hc2] at h2
  have epw : pw s.data.toList (4 * (q : Int)) = if s.size = q ∧ (rd 16 (shortL s.data.toList)).2 = 0 then ((rd 16 (shortL s.data.toList)).1 % M2, 0) else (0, 2) := by
    unfold pw; rw [hr, if_pos rfl, show (4 * (q : Int) / 4).toNat = q by omega]; simp
  have hbig := fun w => ref02_Big m hmM w
  rw [W_word m hm] at hbig
  have hdm : dl m ≤ 100000 := Nat.le_trans (dl_le.2 (show m < C ^ 16 by rw [← M_C]; exact hmM)) (by omega)
  have hdc : dl c ≤ 100000 := Nat.le_trans (dl_le.2 (show c < C ^ 16 by rw [← M_C]; exact hcM)) (by omega)
  have e4 : ((4 * q : Nat) : Int) = 4 * (q : Int) := by omega
  have hshr := fun v w (h : BigAt w v (dl m) m) => ref01_Shr v _ m (4 * q) w h hdm (by omega)
  have hdm2 : dl (m / 2 ^ (4 * q)) ≤ 100000 := Nat.le_trans (dl_le.2 (show m / 2 ^ (4 * q) < C ^ 16 by rw [← M_C]; exact Nat.lt_of_le_of_lt (Nat.div_le_self _ _) hmM)) (by omega)
  have hshl := fun v w (h : BigAt w v (dl (m / 2 ^ (4 * q))) (m / 2 ^ (4 * q))) => ref01_Shl v _ _ (4 * q) w h hdm2 (by omega)
  have hsub := fun v u w (h : BigAt w v (dl m) m) (h' : BigAt w u (dl (m / 2 ^ (4 * q) * 2 ^ (4 * q))) (m / 2 ^ (4 * q) * 2 ^ (4 * q))) => ref01_Sub v u _ _ m _ w h h' hdm (Nat.div_mul_le_self _ _)
  have ecut : m - m / 2 ^ (4 * q) * 2 ^ (4 * q) = c := by rw [hc, Nat.mod_def, Nat.mul_comm]
  rw [ecut] at hsub
  rw [e4] at hshr hshl
  obtain ⟨hi, hhi⟩ : ∃ hi, hi = m / 2 ^ (4 * q) := ⟨_, rfl⟩
  obtain ⟨hj, hhj⟩ : ∃ hj, hj = hi * 2 ^ (4 * q) := ⟨_, rfl⟩
  rw [← hhi] at hshr hshl hsub
  rw [← hhj] at hshl hsub
  obtain ⟨k, hk⟩ := numDig_exists 16 c (by omega)
  have hkq := numDig_le (by omega) hk hq1 hc16
  have hhex := fun v w (h : BigAt w v (dl c) c) => ref04_Hex v c k hk 16 (by omega) (by rw [← M_C]; exact hcM) w h
  have hwide := fun v w (h : BigAt w v (dl c) c) => ref02_Wide v c w h hdc
  rw [Nat.mod_eq_of_lt hcM] at hwide
  have hlk : (⟨(txt 16 c k).toArray⟩ : ByteArray).size = k := by show (txt 16 c k).toArray.size = k; simp [txt_length]
  have hdk : (⟨(txt 16 c k).toArray⟩ : ByteArray).data.toList = txt 16 c k := by simp
  have hdq : (⟨(txt 16 c q).toArray⟩ : ByteArray).data.toList = txt 16 c q := by simp
  have hkd := Lib.hid hk.2.1
  obtain ⟨TQ, hTQ⟩ : ∃ TQ : ByteArray, TQ = ⟨(txt 16 c q).toArray⟩ := ⟨_, rfl⟩
  obtain ⟨TK, hTK⟩ : ∃ TK : ByteArray, TK = ⟨(txt 16 c k).toArray⟩ := ⟨_, rfl⟩
  rw [← hTQ] at h1 h2 hdq
  rw [← hTK] at hhex hlk hdk
  have hdq' := Lib.hid hdq
  have hdk' := Lib.hid hdk
  have hrd := fun (x : ByteArray) (h : x.size ≤ 10000) => ref04_Read x 16 (by omega) (by omega) h
  obtain ⟨l, hl⟩ : ∃ l, l = s.data.toList := ⟨_, rfl⟩
  have hl' := Lib.hid hl
  have hsl : s.size = l.length := by rw [hl]; simp
  have hsl' := Lib.hid hsl
  rw [← hl] at h3 epw
  rw [epw] at h3
  obtain ⟨y, hy⟩ : ∃ y, y = (rd 16 (shortL l)).1 := ⟨_, rfl⟩
  obtain ⟨f, hf⟩ : ∃ f, f = (rd 16 (shortL l)).2 := ⟨_, rfl⟩
  have hrd' : ∀ x : ByteArray, x.data.toList = shortL l → x.size ≤ 10000 → Gives Tryz.prog 13 #[.string x, .int .i64 16] (.tuple #[W y, .int .i64 (f : Nat)]) := fun x hx h => by
    have := hrd x h
    rw [hx, ← hy, ← hf] at this
    exact this
  rw [← hy, ← hf] at h3
  have hsz : ¬ ((100 : Int) < (s.size : Int)) := by omega
  have c1 : ¬ (4 * (q : Int) < 4) := by omega
  have c2 : ¬ (128 < 4 * (q : Int)) := by omega
  have c3 : (4 * (q : Int)).tmod 4 = 0 := by rw [Int.tmod_eq_emod_of_nonneg (by omega)]; omega
  have eq4 : (4 * (q : Int)).tdiv 4 = (q : Int) := by rw [Int.tdiv_eq_ediv_of_nonneg (by omega)]; omega
  have z0 : 0 < M2 := by decide
  obtain ⟨v3, hv3⟩ : ∃ v3, v3 = (if s.size = q ∧ f = 0 then (y % M2, 0) else (0, 2) : Nat × Nat) := ⟨_, rfl⟩
  rw [← hv3] at h3
  have hv3' := Lib.hid hv3
  have h3M : v3.1 < M2 := by rw [hv3]; split; exact Nat.mod_lt _ z0; exact z0
  obtain ⟨x3, f3⟩ := v3
  simp only at h3 h3M
  have hhk := Lib.hid hkq
  clear e1 hc hP hcm hc16 hcM hmM epw hdm hdc e4 hdm2 ecut hhi hhj hk hTQ hTK hdq hdk hl hsl hy hf hrd hr hv3 hkq
  go_enter Tryz.func3, Tryz.ntmps3
  go_wp2_with ((first | (refine kf gf5 hst (h1) rfl rfl rfl rfl ?_; clear hst; intro w hst) | (refine kf gf6 hst (h2) rfl rfl rfl rfl ?_; clear hst; intro w hst) | (refine kf gf6 hst (h3) rfl rfl rfl rfl ?_; clear hst; intro w hst) | (refine wl_callB (o := ⟨some 78, _, _, _, _, _⟩) gf7 hst (fun w hst => hbig w) rfl rfl rfl rfl rfl ?_; clear hst; intro v78 Lg78 w hb78 hst; (try simp only [List.cons_append, List.nil_append, List.append_nil, List.append_assoc] at hst); (try simp only [pz, pn, sz, sc])) | (refine wl_callB (o := ⟨some 82, _, _, _, _, _⟩) gf10 hst (fun w hst => hshr _ w (hb78.at hst (fun x h => by simp [h]))) rfl rfl rfl rfl rfl ?_; clear hst; intro v82 Lg82 w hb82 hst; (try simp only [List.cons_append, List.nil_append, List.append_nil, List.append_assoc] at hst); (try simp only [pz, pn, sz, sc])) | (refine wl_callB (o := ⟨some 84, _, _, _, _, _⟩) gf9 hst (fun w hst => hshl _ w (hb82.at hst (fun x h => by simp [h]))) rfl rfl rfl rfl rfl ?_; clear hst; intro v84 Lg84 w hb84 hst; (try simp only [List.cons_append, List.nil_append, List.append_nil, List.append_assoc] at hst); (try simp only [pz, pn, sz, sc])) | (refine wl_callB (o := ⟨some 85, _, _, _, _, _⟩) gf8 hst (fun w hst => hsub _ _ w (hb78.at hst (fun x h => by simp [h])) (hb84.at hst (fun x h => by simp [h]))) rfl rfl rfl rfl rfl ?_; clear hst; intro v85 Lg85 w hb85 hst; (try simp only [List.cons_append, List.nil_append, List.append_nil, List.append_assoc] at hst); (try simp only [pz, pn, sz, sc])) | (refine kg gf11 hst (fun w hst => hhex _ w (hb85.at hst (fun x h => by simp [h]))) rfl rfl rfl rfl ?_; clear hst; intro w hst) | (refine wl_guard (by rfl) ?_) | (refine kb 3 hst rfl rfl ?_; clear hst; intro b3 w hb3 hst) | (refine kl hst ta24 rfl ?_) | (refine ka 8 hst tz24 rfl rfl ?_; clear hst; intro b8 w hb8 hst) | (refine kt hst ta24 rfl rfl ?_; clear hst; intro w hst) | (refine ka 10 hst tz24 rfl rfl ?_; clear hst; intro b10 w hb10 hst) | (refine wl_eqlS (m := _) (n := _) tf24 tc22 (by kernel_rfl) (by kernel_rfl) rfl rfl (by rfl) (by first | rfl | exact Wd_zero.symm) (by assumption) (by first | assumption | decide) ?_) | (refine kc hst tc22 rfl ?_) | (refine ka 15 hst tz34 rfl rfl ?_; clear hst; intro b15 w hb15 hst) | (refine kt hst ta34 rfl rfl ?_; clear hst; intro w hst) | (refine wl_neqS (m := _) (n := _) tf24 tc22 (by kernel_rfl) (by kernel_rfl) rfl rfl (by rfl) (by first | rfl | exact Wd_zero.symm) (by assumption) (by first | assumption | decide) ?_) | (refine ka 18 hst tz34 rfl rfl ?_; clear hst; intro b18 w hb18 hst)); try simp only [pz, pn, sz, sc])
  go_loopw [14] (fun v wr => ∃ (j : Nat) (s' : ByteArray), k ≤ j ∧ j ≤ q ∧ v = .string s' ∧ s'.data.toList = txt 16 c j ∧ St w0 [] ((b10, .cells (wdc x3) 24) :: (b8, .cells (wdc c) 24) :: (b3, .cells (wdc m) 24) :: Lg85) wr) (fun v _ => match v with | .string s' => q - s'.size | _ => 0)
  case atStart => exact ⟨k, TK, Nat.le_refl _, hhk.out, rfl, hdk'.out, hst.sub (List.Sublist.cons_cons _ (List.Sublist.cons_cons _ (List.Sublist.cons_cons _ (by repeat (first | exact List.Sublist.refl _ | refine List.Sublist.trans ?_ (List.sublist_append_right _ _))))))⟩
  case round =>
    clear hst
    obtain ⟨j, s', hkj, hjq, rfl, hs', hst⟩ := hrel
    have hs'' := Lib.hid hs'
    have hsj : s'.size = j := by
      have : s'.data.toList.length = j := by rw [hs', txt_length]
      simpa using this
    have hsj' : (s'.size : Int) = (j : Int) := by rw [hsj]
    have hcs : (⟨#[48]⟩ : ByteArray).size + s'.size ≤ 9223372036854775807 := by rw [hsj]; show 1 + j ≤ _; omega
    clear hs' hsj
    by_cases hlt : j < q
    · have hlt' : (j : Int) < (q : Int) := by omega
      go_wp2_with ((first | (refine wl_concat rfl rfl (by rfl) (by rfl) hcs ?_; (try simp only [pz, pn, sz, sc])) | (refine wl_guard (by rfl) ?_) | (refine kb 3 hst rfl rfl ?_; clear hst; intro b3 w hb3 hst) | (refine kl hst ta24 rfl ?_) | (refine ka 8 hst tz24 rfl rfl ?_; clear hst; intro b8 w hb8 hst) | (refine kt hst ta24 rfl rfl ?_; clear hst; intro w hst) | (refine ka 10 hst tz24 rfl rfl ?_; clear hst; intro b10 w hb10 hst) | (refine wl_eqlS (m := _) (n := _) tf24 tc22 (by kernel_rfl) (by kernel_rfl) rfl rfl (by rfl) (by first | rfl | exact Wd_zero.symm) (by assumption) (by first | assumption | decide) ?_) | (refine kc hst tc22 rfl ?_) | (refine ka 15 hst tz34 rfl rfl ?_; clear hst; intro b15 w hb15 hst) | (refine kt hst ta34 rfl rfl ?_; clear hst; intro w hst) | (refine wl_neqS (m := _) (n := _) tf24 tc22 (by kernel_rfl) (by kernel_rfl) rfl rfl (by rfl) (by first | rfl | exact Wd_zero.symm) (by assumption) (by first | assumption | decide) ?_) | (refine ka 18 hst tz34 rfl rfl ?_; clear hst; intro b18 w hb18 hst)); try simp only [pz, pn, sz, sc])
      refine ⟨⟨j + 1, _, by omega, by omega, rfl, ?_, hst⟩, ?_⟩
      · have := txt_pad 16 c j 1 (by
          obtain ⟨i, rfl⟩ : ∃ i, j = k + i := ⟨j - k, by omega⟩
          rw [Nat.pow_add, ← Nat.div_div_eq_div_mul, hkd.out, Nat.zero_div])
        rw [this]
        simp only [ByteArray.data_append, Array.toList_append, hs''.out]
        rfl
      · have e1 : ((⟨#[48]⟩ : ByteArray) ++ s').size = 1 + s'.size := by simp [ByteArray.size_append]; rfl
        have e2 : s'.size = j := by omega
        simp only [e1, e2]
        omega
    · obtain rfl : j = q := by omega
      obtain rfl : s' = TQ := by
        apply ByteArray.ext
        apply Array.toList_inj.1
        rw [hs''.out, hdq'.out]
      have hlt' : ¬ ((j : Int) < (j : Int)) := by omega
      clear hcs
      by_cases hq : s.size = j
      · have hq' : ((s.size : Int) != (j : Int)) = false := by rw [bne_eq_false_iff_eq]; omega
        have hne : l ≠ [] := fun e => by
          have h0 : s.size = 0 := by rw [hsl'.out, e]; rfl
          omega
        have hne' := Lib.hid hne
        have hjs := Lib.hid hq
        clear hne hq
        go_wp2_with ((first | (refine kg gf12 hst (fun w hst => hwide _ w (hb85.at hst (fun x h => by simp [h]))) rfl rfl rfl rfl ?_; clear hst; intro w hst) | (refine wl_guard (by rfl) ?_) | (refine kb 3 hst rfl rfl ?_; clear hst; intro b3 w hb3 hst) | (refine kl hst ta24 rfl ?_) | (refine ka 8 hst tz24 rfl rfl ?_; clear hst; intro b8 w hb8 hst) | (refine kt hst ta24 rfl rfl ?_; clear hst; intro w hst) | (refine ka 10 hst tz24 rfl rfl ?_; clear hst; intro b10 w hb10 hst) | (refine wl_eqlS (m := _) (n := _) tf24 tc22 (by kernel_rfl) (by kernel_rfl) rfl rfl (by rfl) (by first | rfl | exact Wd_zero.symm) (by assumption) (by first | assumption | decide) ?_) | (refine kc hst tc22 rfl ?_) | (refine ka 15 hst tz34 rfl rfl ?_; clear hst; intro b15 w hb15 hst) | (refine kt hst ta34 rfl rfl ?_; clear hst; intro w hst) | (refine wl_neqS (m := _) (n := _) tf24 tc22 (by kernel_rfl) (by kernel_rfl) rfl rfl (by rfl) (by first | rfl | exact Wd_zero.symm) (by assumption) (by first | assumption | decide) ?_) | (refine ka 18 hst tz34 rfl rfl ?_; clear hst; intro b18 w hb18 hst)); try simp only [pz, pn, sz, sc])
        go_loopw [17] (fun v wr => ∃ s2 : ByteArray, v = .string s2 ∧ s2.data.toList ≠ [] ∧ s2.size ≤ 100 ∧ strip s2.data.toList = shortL l ∧ St w0 [] [(b10, .cells (wdc x3) 24)] wr) (fun v _ => match v with | .string s2 => s2.size | _ => 0)
        case atStart => exact ⟨s, rfl, by rw [← hl'.out]; exact hne'.out, hs, by rw [← hl'.out]; exact strip_short l hne'.out, hst.sub (List.Sublist.cons _ (List.Sublist.cons_cons _ (List.nil_sublist _)))⟩
        case round =>
          clear hst
          obtain ⟨s2, rfl, hn2, hz2, hst2, hst⟩ := hrel
          obtain ⟨l2, hl2⟩ : ∃ l2, l2 = s2.data.toList := ⟨_, rfl⟩
          have hsz2 : s2.size = l2.length := by rw [hl2]; simp
          rw [← hl2] at hn2 hst2
          have hl2' := Lib.hid hl2
          clear hl2
          rcases l2 with _ | ⟨ch, l2⟩
          · exact absurd rfl hn2
          rcases l2 with _ | ⟨d, l2⟩
          · have hsz' : (s2.size : Int) = 1 := by rw [hsz2]; rfl
            have hsh : s2.data.toList = shortL l := by rw [← hst2, ← hl2'.out]; rfl
            have hread := hrd' s2 hsh (by omega)
            clear hsz2 hn2 hst2 hsh
            by_cases hf0 : f = 0
            · subst hf0
              obtain ⟨hx3, rfl⟩ : x3 = y % M2 ∧ f3 = 0 := by
                have := hv3'.out
                rw [if_pos ⟨hjs.out, rfl⟩] at this
                simpa using this
              have g1 : lb y 1 = lb x3 1 := by rw [hx3, lb_low y 1 (by omega)]
              have g0 : lb y 0 = lb x3 0 := by rw [hx3, lb_low y 0 (by omega)]
              clear hx3
              go_wp2_with ((first | (refine kf gf13 hst (hread) rfl rfl rfl rfl ?_; clear hst; intro w hst) | (refine kg gf4 hst (fun w hst => h5 w hst.keeps) rfl rfl rfl rfl ?_; clear hst; intro w hst) | (refine wl_guard (by rfl) ?_) | (refine kb 3 hst rfl rfl ?_; clear hst; intro b3 w hb3 hst) | (refine kl hst ta24 rfl ?_) | (refine ka 8 hst tz24 rfl rfl ?_; clear hst; intro b8 w hb8 hst) | (refine kt hst ta24 rfl rfl ?_; clear hst; intro w hst) | (refine ka 10 hst tz24 rfl rfl ?_; clear hst; intro b10 w hb10 hst) | (refine wl_eqlS (m := _) (n := _) tf24 tc22 (by kernel_rfl) (by kernel_rfl) rfl rfl (by rfl) (by first | rfl | exact Wd_zero.symm) (by assumption) (by first | assumption | decide) ?_) | (refine kc hst tc22 rfl ?_) | (refine ka 15 hst tz34 rfl rfl ?_; clear hst; intro b15 w hb15 hst) | (refine kt hst ta34 rfl rfl ?_; clear hst; intro w hst) | (refine wl_neqS (m := _) (n := _) tf24 tc22 (by kernel_rfl) (by kernel_rfl) rfl rfl (by rfl) (by first | rfl | exact Wd_zero.symm) (by assumption) (by first | assumption | decide) ?_) | (refine ka 18 hst tz34 rfl rfl ?_; clear hst; intro b18 w hb18 hst)); try simp only [pz, pn, sz, sc])
              refine bp_t rfl rfl (by rfl) ⟨?_, hst.keeps⟩
              rfl
            · obtain ⟨rfl, rfl⟩ : x3 = 0 ∧ f3 = 2 := by
                have := hv3'.out
                rw [if_neg (fun h => hf0 h.2)] at this
                simpa using this
              have hf0' : ((f : Int) != 0) = true := by rw [cast_bne0]; simpa using hf0
              clear hf0
              go_wp2_with ((first | (refine kf gf13 hst (hread) rfl rfl rfl rfl ?_; clear hst; intro w hst) | (refine kg gf4 hst (fun w hst => h5 w hst.keeps) rfl rfl rfl rfl ?_; clear hst; intro w hst) | (refine wl_guard (by rfl) ?_) | (refine kb 3 hst rfl rfl ?_; clear hst; intro b3 w hb3 hst) | (refine kl hst ta24 rfl ?_) | (refine ka 8 hst tz24 rfl rfl ?_; clear hst; intro b8 w hb8 hst) | (refine kt hst ta24 rfl rfl ?_; clear hst; intro w hst) | (refine ka 10 hst tz24 rfl rfl ?_; clear hst; intro b10 w hb10 hst) | (refine wl_eqlS (m := _) (n := _) tf24 tc22 (by kernel_rfl) (by kernel_rfl) rfl rfl (by rfl) (by first | rfl | exact Wd_zero.symm) (by assumption) (by first | assumption | decide) ?_) | (refine kc hst tc22 rfl ?_) | (refine ka 15 hst tz34 rfl rfl ?_; clear hst; intro b15 w hb15 hst) | (refine kt hst ta34 rfl rfl ?_; clear hst; intro w hst) | (refine wl_neqS (m := _) (n := _) tf24 tc22 (by kernel_rfl) (by kernel_rfl) rfl rfl (by rfl) (by first | rfl | exact Wd_zero.symm) (by assumption) (by first | assumption | decide) ?_) | (refine ka 18 hst tz34 rfl rfl ?_; clear hst; intro b18 w hb18 hst)); try simp only [pz, pn, sz, sc])
              refine bp_t rfl rfl (by rfl) ⟨?_, hst.keeps⟩
              rfl
          · have hlt2 : (1 : Int) < (s2.size : Int) := by rw [hsz2]; simp; omega
            have hv' := Lib.hid (show s2.data[0]? = some ch by
              have : s2.data.toList[0]? = some ch := by rw [← hl2'.out]; rfl
              simpa using this)
            by_cases h48 : ch = 48
            · have h48' : ((ch.toNat : Int) == 48) = true := by rw [h48]; rfl
              have hst3 := Lib.hid ((strip_two ch d l2 h48).symm.trans hst2)
              have hsz3 := Lib.hid hsz2
              clear h48 hst2 hsz2 hn2
              go_wp2_with ((first | (refine wl_guard (by rfl) ?_; refine wl_strindex (k := .i64) (j := 0) (by kernel_rfl) rfl rfl (by rfl) (by rfl) hv'.out ?_; (try simp only [pz, pn, sz, sc])) | (refine wl_guard (by rfl) ?_) | (refine kb 3 hst rfl rfl ?_; clear hst; intro b3 w hb3 hst) | (refine kl hst ta24 rfl ?_) | (refine ka 8 hst tz24 rfl rfl ?_; clear hst; intro b8 w hb8 hst) | (refine kt hst ta24 rfl rfl ?_; clear hst; intro w hst) | (refine ka 10 hst tz24 rfl rfl ?_; clear hst; intro b10 w hb10 hst) | (refine wl_eqlS (m := _) (n := _) tf24 tc22 (by kernel_rfl) (by kernel_rfl) rfl rfl (by rfl) (by first | rfl | exact Wd_zero.symm) (by assumption) (by first | assumption | decide) ?_) | (refine kc hst tc22 rfl ?_) | (refine ka 15 hst tz34 rfl rfl ?_; clear hst; intro b15 w hb15 hst) | (refine kt hst ta34 rfl rfl ?_; clear hst; intro w hst) | (refine wl_neqS (m := _) (n := _) tf24 tc22 (by kernel_rfl) (by kernel_rfl) rfl rfl (by rfl) (by first | rfl | exact Wd_zero.symm) (by assumption) (by first | assumption | decide) ?_) | (refine ka 18 hst tz34 rfl rfl ?_; clear hst; intro b18 w hb18 hst)); try simp only [pz, pn, sz, sc])
              have he : (s2.extract 1 s2.size).data.toList = d :: l2 := by
                have := hl2'.out
                rw [Lib.extract_data, ← this, hsz3.out]
                simp
              refine ⟨⟨_, rfl, by rw [he]; simp, ?_, by rw [he]; exact hst3.out, hst⟩, ?_⟩
              · have : (s2.extract 1 s2.size).size = (d :: l2).length := by rw [← he]; simp
                have h2 := hsz3.out
                simp at this h2 ⊢
                omega
              · have : (s2.extract 1 s2.size).size = (d :: l2).length := by rw [← he]; simp
                have h2 := hsz3.out
                simp only [this, h2]
                simp
                omega
            · have h48' : ((ch.toNat : Int) == 48) = false := by
                rw [beq_eq_false_iff_ne]
                intro h
                apply h48
                apply UInt8.toNat_inj.1
                show ch.toNat = 48
                omega
              have hsh : s2.data.toList = shortL l := by rw [← hst2, ← hl2'.out, strip_same ch d l2 h48]
              have hread := hrd' s2 hsh (by omega)
              clear hsz2 hn2 hst2 hsh h48
              by_cases hf0 : f = 0
              · subst hf0
                obtain ⟨hx3, rfl⟩ : x3 = y % M2 ∧ f3 = 0 := by
                  have := hv3'.out
                  rw [if_pos ⟨hjs.out, rfl⟩] at this
                  simpa using this
                have g1 : lb y 1 = lb x3 1 := by rw [hx3, lb_low y 1 (by omega)]
                have g0 : lb y 0 = lb x3 0 := by rw [hx3, lb_low y 0 (by omega)]
                clear hx3
                go_wp2_with ((first | (refine wl_guard (by rfl) ?_; refine wl_strindex (k := .i64) (j := 0) (by kernel_rfl) rfl rfl (by rfl) (by rfl) hv'.out ?_; (try simp only [pz, pn, sz, sc])) | (refine kf gf13 hst (hread) rfl rfl rfl rfl ?_; clear hst; intro w hst) | (refine kg gf4 hst (fun w hst => h5 w hst.keeps) rfl rfl rfl rfl ?_; clear hst; intro w hst) | (refine wl_guard (by rfl) ?_) | (refine kb 3 hst rfl rfl ?_; clear hst; intro b3 w hb3 hst) | (refine kl hst ta24 rfl ?_) | (refine ka 8 hst tz24 rfl rfl ?_; clear hst; intro b8 w hb8 hst) | (refine kt hst ta24 rfl rfl ?_; clear hst; intro w hst) | (refine ka 10 hst tz24 rfl rfl ?_; clear hst; intro b10 w hb10 hst) | (refine wl_eqlS (m := _) (n := _) tf24 tc22 (by kernel_rfl) (by kernel_rfl) rfl rfl (by rfl) (by first | rfl | exact Wd_zero.symm) (by assumption) (by first | assumption | decide) ?_) | (refine kc hst tc22 rfl ?_) | (refine ka 15 hst tz34 rfl rfl ?_; clear hst; intro b15 w hb15 hst) | (refine kt hst ta34 rfl rfl ?_; clear hst; intro w hst) | (refine wl_neqS (m := _) (n := _) tf24 tc22 (by kernel_rfl) (by kernel_rfl) rfl rfl (by rfl) (by first | rfl | exact Wd_zero.symm) (by assumption) (by first | assumption | decide) ?_) | (refine ka 18 hst tz34 rfl rfl ?_; clear hst; intro b18 w hb18 hst)); try simp only [pz, pn, sz, sc])
                refine bp_t rfl rfl (by rfl) ⟨?_, hst.keeps⟩
                rfl
              · obtain ⟨rfl, rfl⟩ : x3 = 0 ∧ f3 = 2 := by
                  have := hv3'.out
                  rw [if_neg (fun h => hf0 h.2)] at this
                  simpa using this
                have hf0' : ((f : Int) != 0) = true := by rw [cast_bne0]; simpa using hf0
                clear hf0
                go_wp2_with ((first | (refine wl_guard (by rfl) ?_; refine wl_strindex (k := .i64) (j := 0) (by kernel_rfl) rfl rfl (by rfl) (by rfl) hv'.out ?_; (try simp only [pz, pn, sz, sc])) | (refine kf gf13 hst (hread) rfl rfl rfl rfl ?_; clear hst; intro w hst) | (refine kg gf4 hst (fun w hst => h5 w hst.keeps) rfl rfl rfl rfl ?_; clear hst; intro w hst) | (refine wl_guard (by rfl) ?_) | (refine kb 3 hst rfl rfl ?_; clear hst; intro b3 w hb3 hst) | (refine kl hst ta24 rfl ?_) | (refine ka 8 hst tz24 rfl rfl ?_; clear hst; intro b8 w hb8 hst) | (refine kt hst ta24 rfl rfl ?_; clear hst; intro w hst) | (refine ka 10 hst tz24 rfl rfl ?_; clear hst; intro b10 w hb10 hst) | (refine wl_eqlS (m := _) (n := _) tf24 tc22 (by kernel_rfl) (by kernel_rfl) rfl rfl (by rfl) (by first | rfl | exact Wd_zero.symm) (by assumption) (by first | assumption | decide) ?_) | (refine kc hst tc22 rfl ?_) | (refine ka 15 hst tz34 rfl rfl ?_; clear hst; intro b15 w hb15 hst) | (refine kt hst ta34 rfl rfl ?_; clear hst; intro w hst) | (refine wl_neqS (m := _) (n := _) tf24 tc22 (by kernel_rfl) (by kernel_rfl) rfl rfl (by rfl) (by first | rfl | exact Wd_zero.symm) (by assumption) (by first | assumption | decide) ?_) | (refine ka 18 hst tz34 rfl rfl ?_; clear hst; intro b18 w hb18 hst)); try simp only [pz, pn, sz, sc])
                refine bp_t rfl rfl (by rfl) ⟨?_, hst.keeps⟩
                rfl
      · obtain ⟨rfl, rfl⟩ : x3 = 0 ∧ f3 = 2 := by
          have := hv3'.out
          rw [if_neg (fun h => hq h.1)] at this
          simpa using this
        have hq' : ((s.size : Int) != (j : Int)) = true := by rw [bne_iff_ne]; omega
        clear hq
        go_wp2_with ((first | (refine kg gf12 hst (fun w hst => hwide _ w (hb85.at hst (fun x h => by simp [h]))) rfl rfl rfl rfl ?_; clear hst; intro w hst) | (refine kg gf4 hst (fun w hst => h5 w hst.keeps) rfl rfl rfl rfl ?_; clear hst; intro w hst) | (refine wl_guard (by rfl) ?_) | (refine kb 3 hst rfl rfl ?_; clear hst; intro b3 w hb3 hst) | (refine kl hst ta24 rfl ?_) | (refine ka 8 hst tz24 rfl rfl ?_; clear hst; intro b8 w hb8 hst) | (refine kt hst ta24 rfl rfl ?_; clear hst; intro w hst) | (refine ka 10 hst tz24 rfl rfl ?_; clear hst; intro b10 w hb10 hst) | (refine wl_eqlS (m := _) (n := _) tf24 tc22 (by kernel_rfl) (by kernel_rfl) rfl rfl (by rfl) (by first | rfl | exact Wd_zero.symm) (by assumption) (by first | assumption | decide) ?_) | (refine kc hst tc22 rfl ?_) | (refine ka 15 hst tz34 rfl rfl ?_; clear hst; intro b15 w hb15 hst) | (refine kt hst ta34 rfl rfl ?_; clear hst; intro w hst) | (refine wl_neqS (m := _) (n := _) tf24 tc22 (by kernel_rfl) (by kernel_rfl) rfl rfl (by rfl) (by first | rfl | exact Wd_zero.symm) (by assumption) (by first | assumption | decide) ?_) | (refine ka 18 hst tz34 rfl rfl ?_; clear hst; intro b18 w hb18 hst)); try simp only [pz, pn, sz, sc])
        refine bp_t rfl rfl (by rfl) ⟨?_, hst.keeps⟩
        rfl

end Go.Proofs.YtojjmcghcgidlaaGreatDoor.Rd
