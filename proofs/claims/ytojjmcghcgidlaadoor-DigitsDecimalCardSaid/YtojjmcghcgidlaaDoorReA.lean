/- What the reference's Shl answers. -/
import Derived.Test.YtojjmcghcgidlaaDoorRdZ
namespace Go.Proofs.YtojjmcghcgidlaaDoor.Rd
open Go Go.RowKit
set_option linter.unusedVariables false
set_option linter.unusedSimpArgs false
set_option maxRecDepth 100000

theorem uc_zeros (q : Nat) : uc q 0 ++ [.int .u32 0] = uc (q + 1) 0 := by
  have := uc_snoc 0 0 q (Cp_pos q) C_pos
  simpa using this

set_option maxHeartbeats 8000000 in
theorem ref01_Shl (va : Value) (la a k : Nat) (w0 : World) (ha : BigAt w0 va la a) (hla : la ≤ 100000) (hk : k ≤ 100000) : GivesB Tryd.prog 24 #[va, .int .i64 k] (a * 2 ^ k) w0 := by
  have hst := St.start [] w0
  have hda := fun (i : Nat) (hi : i ≤ 1000000) (w : World) (hst : Keeps [] w0 w) => ref01_digit va la a i hi w (ha.keep hst)
  obtain ⟨han, _, aa, capa, rfl, _, _⟩ := ha
  obtain ⟨q, hq⟩ : ∃ q, q = k / 32 := ⟨_, rfl⟩
  obtain ⟨r, hr⟩ : ∃ r, r = k % 32 := ⟨_, rfl⟩
  have hm : a * 2 ^ k = a * 2 ^ r * C ^ q := by rw [two_pow_32 k, ← hq, ← hr, Nat.mul_assoc, Nat.mul_comm (C ^ q)]
  have Q1 : (k : Int) / 32 = (q : Int) := by omega
  have Q2 : (k : Int) % 32 = (r : Int) := by omega
  have Q3 : (0 : Int) ≤ (k : Int) := by omega
  have hr32 : r < 32 := by omega
  have hqk : q ≤ 100000 := by omega
  have hr1 : (0 : Int) ≤ (r : Int) := by omega
  have hr2 : (r : Int) < 32 := by omega
  rw [hm]
  have hm' := Lib.hid hm
  clear hq hr hm
  go_enter Tryd.func24, Tryd.ntmps24
  go_wp2_with ((first | (refine wl_slice1 (o := ⟨some 16, _, _, _, _, _⟩) hst ts31 te48 rfl rfl (by (simp only [eval_lit, eval_k, eval_f, eval_g, List.getD_cons_succ, List.getD_cons_zero]) <;> rfl) (by rfl) ?_; clear hst; intro b16 w hb16 hst) | (refine wl_slice1 (o := ⟨some 35, _, _, _, _, _⟩) hst ts31 te48 rfl rfl (by (simp only [eval_lit, eval_k, eval_f, eval_g, List.getD_cons_succ, List.getD_cons_zero]) <;> rfl) (by rfl) ?_; clear hst; intro b35 w hb35 hst)); try simp only [pz, pn, sz, sc])
  go_loopw [6, 5] (fun vi vo wr => ∃ (j : Nat) (Lg : List (Nat × Obj)), j ≤ q ∧ vi = .int .i64 j ∧ GRow w0 Lg 48 1 vo j (uc j 0) ∧ St w0 [] Lg wr) (fun vi _ _ => q - (intOf vi).toNat)
  case atStart => exact ⟨0, [], by omega, by go_num, GRow.nil _ _ _, hst⟩
  case round =>
    clear hst
    obtain ⟨j, Lg, hj, rfl, hgr, hst⟩ := hrel
    by_cases hlt : j < q
    · have hz := Lib.hid (uc_zeros j)
      have hjq : (j : Int) < (q : Int) := by omega
      have hjj : j < 200000 := by omega
      go_wp2_with ((first | (refine wl_append1 (bytes := 4) (o := ⟨some 17, _, _, _, _, _⟩) hgr hst ts31 te48 (show BytesT _ _ _ by unfold BytesT; kernel_rfl) rfl rfl (by rfl) (by rfl) (by repeat (first | exact Tl.here | apply Tl.there)) (by rfl) (by rfl) (by omega) (by omega) ?_; clear hst hgr; intro v17 Lg w hgr hst; (try simp only [List.cons_append, List.nil_append] at hst); (try simp only [pz, pn, sz, sc])) | (refine wl_append1 (bytes := 4) (o := ⟨some 36, _, _, _, _, _⟩) hgr hst ts31 te48 (show BytesT _ _ _ by unfold BytesT; kernel_rfl) rfl rfl (by rfl) (by rfl) (by repeat (first | exact Tl.here | apply Tl.there)) (by rfl) (by rfl) (by omega) (by omega) ?_; clear hst hgr; intro v36 Lg w hgr hst; (try simp only [List.cons_append, List.nil_append] at hst); (try simp only [pz, pn, sz, sc])) | (refine wl_slice1 (o := ⟨some 16, _, _, _, _, _⟩) hst ts31 te48 rfl rfl (by (simp only [eval_lit, eval_k, eval_f, eval_g, List.getD_cons_succ, List.getD_cons_zero]) <;> rfl) (by rfl) ?_; clear hst; intro b16 w hb16 hst) | (refine wl_slice1 (o := ⟨some 35, _, _, _, _, _⟩) hst ts31 te48 rfl rfl (by (simp only [eval_lit, eval_k, eval_f, eval_g, List.getD_cons_succ, List.getD_cons_zero]) <;> rfl) (by rfl) ?_; clear hst; intro b35 w hb35 hst)); try simp only [pz, pn, sz, sc])
      refine ⟨⟨j + 1, _, by omega, by go_num, by rw [← hz.out]; exact hgr, hst⟩, ?_⟩
      simp [intOf]; omega
    · have hje : j = q := by omega
      subst hje
      have hjq : ¬ ((j : Int) < (j : Int)) := by omega
      clear hlt hj
      go_wp2_with ((first | (refine wl_slice1 (o := ⟨some 16, _, _, _, _, _⟩) hst ts31 te48 rfl rfl (by (simp only [eval_lit, eval_k, eval_f, eval_g, List.getD_cons_succ, List.getD_cons_zero]) <;> rfl) (by rfl) ?_; clear hst; intro b16 w hb16 hst) | (refine wl_slice1 (o := ⟨some 35, _, _, _, _, _⟩) hst ts31 te48 rfl rfl (by (simp only [eval_lit, eval_k, eval_f, eval_g, List.getD_cons_succ, List.getD_cons_zero]) <;> rfl) (by rfl) ?_; clear hst; intro b35 w hb35 hst)); try simp only [pz, pn, sz, sc])
      go_loopw [8, 7, 5] (fun vi vc vo wr => ∃ (i c s : Nat) (Lg : List (Nat × Obj)), i ≤ la + 1 ∧ vi = .int .i64 i ∧ vc = .int .u64 c ∧ c < 2 ^ r ∧ s < C ^ i ∧ s + c * C ^ i = a % C ^ i * 2 ^ r ∧ GRow w0 Lg 48 1 vo (j + i) (uc (j + i) (s * C ^ j)) ∧ St w0 [] Lg wr) (fun vi _ _ _ => la + 1 - (intOf vi).toNat)
      case atStart => exact ⟨0, 0, 0, Lg, by omega, rfl, rfl, Nat.pow_pos (by omega), by simp, by simp [Nat.mod_one], by simpa using hgr, hst⟩
      case round =>
        clear hst hgr
        obtain ⟨i, c, s, Lg, hi, rfl, rfl, hc, hs, he, hgr, hst⟩ := hrel
        by_cases hle : i ≤ la
        · have hdai := hda i (by omega)
          have hsa := dg_split a i
          have hx := dg_lt a i
          generalize dg a i = x at *
          obtain ⟨Z, hZ⟩ : ∃ Z, Z = x * 2 ^ r := ⟨_, rfl⟩
          obtain ⟨t2, ht2⟩ : ∃ t2, t2 = c + x * 2 ^ r := ⟨_, rfl⟩
          obtain ⟨d, hd⟩ : ∃ d, d = t2 % C := ⟨_, rfl⟩
          obtain ⟨p, hp⟩ : ∃ p, p = t2 / C := ⟨_, rfl⟩
          have hdC : d < C := by rw [hd]; exact Nat.mod_lt _ C_pos
          have hpr : C * p + d = t2 := by rw [hp, hd]; exact Nat.div_add_mod _ _
          have h2r : 2 ^ r ≤ 2 ^ 31 := Nat.pow_le_pow_right (by omega) (by omega)
          have htC : t2 < C * 2 ^ r := by
            have : (x + 1) * 2 ^ r ≤ C * 2 ^ r := Nat.mul_le_mul_right _ hx
            rw [Nat.add_mul, Nat.one_mul] at this
            omega
          have htB : t2 < B := by
            have : C * 2 ^ r ≤ C * 2 ^ 31 := Nat.mul_le_mul_left _ h2r
            rw [C_val] at this htC
            rw [B_val]; omega
          have hp2 : p < 2 ^ r := by
            rw [hp, Nat.div_lt_iff_lt_mul C_pos, Nat.mul_comm]; exact htC
          have hsl := add_lt_C s d i hs hdC
          have hsC : s * C ^ j < C ^ (j + i) := by
            rw [Nat.pow_add, Nat.mul_comm]
            exact Nat.mul_lt_mul_of_pos_left hs (Cp_pos j)
          have hsn := uc_snoc (s * C ^ j) d (j + i) hsC hdC
          have hse : s * C ^ j + d * C ^ (j + i) = (s + d * C ^ i) * C ^ j := by
            rw [Nat.add_mul, Nat.mul_assoc d, ← Nat.pow_add, Nat.add_comm i]
          rw [hse] at hsn
          have he' : s + d * C ^ i + p * C ^ (i + 1) = a % C ^ (i + 1) * 2 ^ r := by
            rw [hsa, Nat.add_mul]
            have e2 : p * C ^ (i + 1) + d * C ^ i = t2 * C ^ i := by
              rw [← hpr, Nat.add_mul, Nat.pow_succ', ← Nat.mul_assoc, Nat.mul_comm p]
            have e3 : t2 * C ^ i = c * C ^ i + x * C ^ i * 2 ^ r := by
              rw [ht2, Nat.add_mul, Nat.mul_right_comm]
            omega
          have hZB : x * 2 ^ r < B := by omega
          have F0 : IntKind.u64.wrap ((x : Int) * 2 ^ r) = (Z : Int) := u64_wrap' _ Z _ (by rw [hZ, cast_pow2]; exact (Int.natCast_mul _ _).symm) (Nat.mod_eq_of_lt (by rw [hZ]; exact hZB))
          have F1 : bits .or .u64 (c : Int) (Z : Int) = (t2 : Int) := by
            have := or_low' x c r hZB hc (by omega)
            rw [hZ, ht2]; exact this
          have F3 : IntKind.u32.wrap (t2 : Int) = (d : Int) := by rw [u32_wrap, hd]
          have F4 : (t2 : Int) / 4294967296 = (p : Int) := by rw [C_val] at hp; omega
          have hsn' := Lib.hid hsn
          have he'' := Lib.hid he'
          have hp2' := Lib.hid hp2
          have hi1 : (i : Int) ≤ (la : Int) := by omega
          have hi2 : i ≤ 100000 := by omega
          have hji : j + i ≤ 200000 := by omega
          clear he hsa hx hZ ht2 hd hp hdC hpr h2r htC htB hsC hse hsn he' hs hc hle hi hZB hp2
          go_wp2_with ((first | (refine kg gf44 hst (fun w hst => hdai w hst.keeps) rfl rfl rfl rfl ?_; clear hst; intro w hst) | (refine wl_append1 (bytes := 4) (o := ⟨some 17, _, _, _, _, _⟩) hgr hst ts31 te48 (show BytesT _ _ _ by unfold BytesT; kernel_rfl) rfl rfl (by rfl) (by rfl) (by repeat (first | exact Tl.here | apply Tl.there)) (by rfl) (by rfl) (by omega) (by omega) ?_; clear hst hgr; intro v17 Lg w hgr hst; (try simp only [List.cons_append, List.nil_append] at hst); (try simp only [pz, pn, sz, sc])) | (refine wl_append1 (bytes := 4) (o := ⟨some 36, _, _, _, _, _⟩) hgr hst ts31 te48 (show BytesT _ _ _ by unfold BytesT; kernel_rfl) rfl rfl (by rfl) (by rfl) (by repeat (first | exact Tl.here | apply Tl.there)) (by rfl) (by rfl) (by omega) (by omega) ?_; clear hst hgr; intro v36 Lg w hgr hst; (try simp only [List.cons_append, List.nil_append] at hst); (try simp only [pz, pn, sz, sc])) | (refine wl_slice1 (o := ⟨some 16, _, _, _, _, _⟩) hst ts31 te48 rfl rfl (by (simp only [eval_lit, eval_k, eval_f, eval_g, List.getD_cons_succ, List.getD_cons_zero]) <;> rfl) (by rfl) ?_; clear hst; intro b16 w hb16 hst) | (refine wl_slice1 (o := ⟨some 35, _, _, _, _, _⟩) hst ts31 te48 rfl rfl (by (simp only [eval_lit, eval_k, eval_f, eval_g, List.getD_cons_succ, List.getD_cons_zero]) <;> rfl) (by rfl) ?_; clear hst; intro b35 w hb35 hst)); try simp only [pz, pn, sz, sc])
          refine ⟨⟨i + 1, p, s + d * C ^ i, _, by omega, by go_num, rfl, hp2'.out, hsl, he''.out, by rw [show j + (i + 1) = j + i + 1 by omega, ← hsn'.out]; exact hgr, hst⟩, ?_⟩
          simp [intOf]; omega
        · have hie : i = la + 1 := by omega
          subst hie
          have h31 : 2 ^ r < C := Nat.pow_lt_pow_right (n := 32) (by omega) (by omega)
          have hbig : a * 2 ^ r < C ^ (la + 1) := by
            rw [Nat.pow_succ]
            exact Nat.mul_lt_mul'' han h31
          rw [Nat.mod_eq_of_lt (show a < C ^ (la + 1) from Nat.lt_of_lt_of_le han (Nat.pow_le_pow_right C_pos (by omega)))] at he
          have hc0 : c = 0 := by
            rcases Nat.eq_zero_or_pos c with h | h
            · exact h
            · have : 1 * C ^ (la + 1) ≤ c * C ^ (la + 1) := Nat.mul_le_mul_right _ h
              omega
          subst hc0
          rw [Nat.zero_mul, Nat.add_zero] at he
          rw [he] at hgr hs
          have hsC : a * 2 ^ r * C ^ j < C ^ (j + (la + 1)) := by
            rw [Nat.pow_add, Nat.mul_comm]
            exact Nat.mul_lt_mul_of_pos_left hs (Cp_pos j)
          obtain ⟨ao, co, rfl, hat, hbi⟩ := hgr.big (L := Lg) hsC (by omega) (fun x h => h)
          have htr := fun w hst => ref01_trim ao (j + (la + 1)) co _ w (hat [] w hst)
          have hi1 : ¬ ((la : Int) + 1 ≤ (la : Int)) := by omega
          have hi2 : ((la + 1 : Nat) : Int) = (la : Int) + 1 := by omega
          rw [hi2]
          generalize j + (la + 1) = J at *
          generalize a * 2 ^ r * C ^ j = V at *
          clear hs he hi hle hi2 hat hgr hsC hbig h31
          go_wp2_with ((first | (refine kg gf43 hst (htr) rfl rfl rfl rfl ?_; clear hst; intro w hst) | (refine wl_slice1 (o := ⟨some 16, _, _, _, _, _⟩) hst ts31 te48 rfl rfl (by (simp only [eval_lit, eval_k, eval_f, eval_g, List.getD_cons_succ, List.getD_cons_zero]) <;> rfl) (by rfl) ?_; clear hst; intro b16 w hb16 hst) | (refine wl_slice1 (o := ⟨some 35, _, _, _, _, _⟩) hst ts31 te48 rfl rfl (by (simp only [eval_lit, eval_k, eval_f, eval_g, List.getD_cons_succ, List.getD_cons_zero]) <;> rfl) (by rfl) ?_; clear hst; intro b35 w hb35 hst)); try simp only [pz, pn, sz, sc])
          refine bp_t rfl rfl (by rfl) (PostB.of hst hbi (fun x h => h))

end Go.Proofs.YtojjmcghcgidlaaDoor.Rd
