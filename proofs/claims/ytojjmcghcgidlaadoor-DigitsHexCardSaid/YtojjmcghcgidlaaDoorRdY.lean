/- What the reference's Add answers. -/
import Derived.Test.YtojjmcghcgidlaaDoorRdX
namespace Go.Proofs.YtojjmcghcgidlaaDoor.Rd
open Go Go.RowKit
set_option linter.unusedVariables false
set_option linter.unusedSimpArgs false
set_option maxRecDepth 100000

set_option maxHeartbeats 8000000 in
theorem ref01_Add (va vb : Value) (la lb' a b : Nat) (w0 : World) (ha : BigAt w0 va la a) (hb : BigAt w0 vb lb' b) (hla : la ≤ 100000) (hlb : lb' ≤ 100000) : GivesB Tryd.prog 23 #[va, vb] (a + b) w0 := by
  have hst := St.start [] w0
  have hda := fun (i : Nat) (hi : i ≤ 1000000) (w : World) (hst : Keeps [] w0 w) => ref01_digit va la a i hi w (ha.keep hst)
  have hdb := fun (i : Nat) (hi : i ≤ 1000000) (w : World) (hst : Keeps [] w0 w) => ref01_digit vb lb' b i hi w (hb.keep hst)
  obtain ⟨han, _, aa, capa, rfl, _, _⟩ := ha
  obtain ⟨hbn, _, ab, capb, rfl, _, _⟩ := hb
  obtain ⟨mx, hmx⟩ : ∃ mx, mx = max la lb' := ⟨_, rfl⟩
  have hmx' : (if (lb' : Int) ≤ (la : Int) then (la : Int) else (lb' : Int)) = (mx : Int) := by split <;> omega
  have h1 : a < C ^ mx := Nat.lt_of_lt_of_le han (Nat.pow_le_pow_right C_pos (by omega))
  have h2 : b < C ^ mx := Nat.lt_of_lt_of_le hbn (Nat.pow_le_pow_right C_pos (by omega))
  go_enter Tryd.func23, Tryd.ntmps23
  go_wp2_with ((first | (refine wl_slice1 (o := ⟨some 29, _, _, _, _, _⟩) hst ts31 te48 rfl rfl (by (simp only [eval_lit, eval_k, eval_f, eval_g, List.getD_cons_succ, List.getD_cons_zero]) <;> rfl) (by rfl) ?_; clear hst; intro b29 w hb29 hst)); try simp only [pz, pn, sz, sc])
  go_loopw [7, 6, 5] (fun vi vc vo wr => ∃ (i c s : Nat) (Lg : List (Nat × Obj)), i ≤ mx + 1 ∧ vi = .int .i64 i ∧ vc = .int .u64 c ∧ c ≤ 1 ∧ s < C ^ i ∧ s + c * C ^ i = a % C ^ i + b % C ^ i ∧ GRow w0 Lg 48 1 vo i (uc i s) ∧ St w0 [] Lg wr) (fun vi _ _ _ => mx + 1 - (intOf vi).toNat)
  case atStart => exact ⟨0, 0, 0, [], by omega, rfl, rfl, by omega, by simp, by simp [Nat.mod_one], GRow.nil _ _ _, hst⟩
  case round =>
    clear hst
    obtain ⟨i, c, s, Lg, hi, rfl, rfl, hc, hs, he, hgr, hst⟩ := hrel
    by_cases hle : i ≤ mx
    · have hdai := hda i (by omega)
      have hdbi := hdb i (by omega)
      have hsa := dg_split a i
      have hsb := dg_split b i
      have hx := dg_lt a i
      have hy := dg_lt b i
      generalize dg a i = x at *
      generalize dg b i = y at *
      obtain ⟨t1, ht1⟩ : ∃ t1, t1 = c + x := ⟨_, rfl⟩
      obtain ⟨t2, ht2⟩ : ∃ t2, t2 = t1 + y := ⟨_, rfl⟩
      obtain ⟨r, hr⟩ : ∃ r, r = t2 % C := ⟨_, rfl⟩
      obtain ⟨q, hq⟩ : ∃ q, q = t2 / C := ⟨_, rfl⟩
      have hrC : r < C := by rw [hr]; exact Nat.mod_lt _ C_pos
      have hsn := uc_snoc s r i hs hrC
      have hsl := add_lt_C s r i hs hrC
      have hqr : C * q + r = t2 := by rw [hq, hr]; exact Nat.div_add_mod _ _
      rw [C_val] at hx hy hqr hrC hr hq
      have F1 : IntKind.u64.wrap ((c : Int) + (x : Int)) = (t1 : Int) := u64_wrap' _ t1 _ (by omega) (by rw [B_val]; omega)
      have F2 : IntKind.u64.wrap ((t1 : Int) + (y : Int)) = (t2 : Int) := u64_wrap' _ t2 _ (by omega) (by rw [B_val]; omega)
      have F3 : IntKind.u32.wrap (t2 : Int) = (r : Int) := by rw [u32_wrap, C_val, hr]
      have F4 : (t2 : Int) / 4294967296 = (q : Int) := by omega
      have hq1 : q ≤ 1 := by omega
      have he' : s + r * C ^ i + q * C ^ (i + 1) = a % C ^ (i + 1) + b % C ^ (i + 1) := by
        rw [hsa, hsb]
        have : t2 * C ^ i = c * C ^ i + x * C ^ i + y * C ^ i := by rw [ht2, ht1, Nat.add_mul, Nat.add_mul]
        have e2 : q * C ^ (i + 1) + r * C ^ i = t2 * C ^ i := by
          rw [← hqr, Nat.add_mul, Nat.pow_succ', ← Nat.mul_assoc, Nat.mul_comm q, C_val]
        omega
      have hsn' := Lib.hid hsn
      have he'' := Lib.hid he'
      have hi1 : (i : Int) ≤ (mx : Int) := by omega
      have hi2 : i ≤ 100000 := by omega
      clear he hsa hsb hx hy ht1 ht2 hr hq hqr hrC hsn he' hs hc hle hi
      go_wp2_with ((first | (refine kg gf44 hst (fun w hst => hdai w hst.keeps) rfl rfl rfl rfl ?_; clear hst; intro w hst) | (refine kg gf44 hst (fun w hst => hdbi w hst.keeps) rfl rfl rfl rfl ?_; clear hst; intro w hst) | (refine wl_append1 (bytes := 4) (o := ⟨some 30, _, _, _, _, _⟩) hgr hst ts31 te48 (show BytesT _ _ _ by unfold BytesT; kernel_rfl) rfl rfl (by rfl) (by rfl) (by repeat (first | exact Tl.here | apply Tl.there)) (by rfl) (by rfl) (by omega) (by omega) ?_; clear hst hgr; intro v30 Lg w hgr hst; (try simp only [List.cons_append, List.nil_append] at hst); (try simp only [pz, pn, sz, sc])) | (refine wl_slice1 (o := ⟨some 29, _, _, _, _, _⟩) hst ts31 te48 rfl rfl (by (simp only [eval_lit, eval_k, eval_f, eval_g, List.getD_cons_succ, List.getD_cons_zero]) <;> rfl) (by rfl) ?_; clear hst; intro b29 w hb29 hst)); try simp only [pz, pn, sz, sc])
      refine ⟨⟨i + 1, q, s + r * C ^ i, _, by omega, by go_num, rfl, hq1, hsl, he''.out, by rw [← hsn'.out]; exact hgr, hst⟩, ?_⟩
      simp [intOf]; omega
    · have hie : i = mx + 1 := by omega
      subst hie
      have hp : C ^ mx * 2 ≤ C ^ (mx + 1) := by rw [Nat.pow_succ]; exact Nat.mul_le_mul_left _ (by rw [C_val]; omega)
      rw [Nat.mod_eq_of_lt (show a < C ^ (mx + 1) by omega), Nat.mod_eq_of_lt (show b < C ^ (mx + 1) by omega)] at he
      have hc0 : c = 0 := by
        rcases Nat.eq_zero_or_pos c with h | h
        · exact h
        · have : 1 * C ^ (mx + 1) ≤ c * C ^ (mx + 1) := Nat.mul_le_mul_right _ h
          omega
      subst hc0
      rw [Nat.zero_mul, Nat.add_zero] at he
      subst he
      obtain ⟨ao, co, rfl, hat, hbi⟩ := hgr.big (L := Lg) hs (by omega) (fun x h => h)
      have htr := fun w hst => ref01_trim ao (mx + 1) co (a + b) w (hat [] w hst)
      have hi1 : ¬ ((mx : Int) + 1 ≤ (mx : Int)) := by omega
      have hi2 : ((mx + 1 : Nat) : Int) = (mx : Int) + 1 := by omega
      rw [hi2]
      clear hs hp hi hle h1 h2 hi2 hat
      go_wp2_with ((first | (refine kg gf43 hst (htr) rfl rfl rfl rfl ?_; clear hst; intro w hst) | (refine wl_slice1 (o := ⟨some 29, _, _, _, _, _⟩) hst ts31 te48 rfl rfl (by (simp only [eval_lit, eval_k, eval_f, eval_g, List.getD_cons_succ, List.getD_cons_zero]) <;> rfl) (by rfl) ?_; clear hst; intro b29 w hb29 hst)); try simp only [pz, pn, sz, sc])
      refine bp_t rfl rfl (by rfl) (PostB.of hst hbi (fun x h => h))

end Go.Proofs.YtojjmcghcgidlaaDoor.Rd
