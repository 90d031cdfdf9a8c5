/- What the reference's Sub answers. -/
import Derived.Test.YtojjmcghcgidlaaGreatDoorRdY
namespace Go.Proofs.YtojjmcghcgidlaaGreatDoor.Rd
open Go Go.RowKit
set_option linter.unusedVariables false
set_option linter.unusedSimpArgs false
set_option maxRecDepth 100000

set_option maxHeartbeats 8000000 in
theorem ref01_Sub (va vb : Value) (la lb' a b : Nat) (w0 : World) (ha : BigAt w0 va la a) (hb : BigAt w0 vb lb' b) (hla : la ≤ 100000) (hab : b ≤ a) : GivesB Tryz.prog 8 #[va, vb] (a - b) w0 := by
  have hst := St.start [] w0
  have hda := fun (i : Nat) (hi : i ≤ 1000000) (w : World) (hst : Keeps [] w0 w) => ref01_digit va la a i hi w (ha.keep hst)
  have hdb := fun (i : Nat) (hi : i ≤ 1000000) (w : World) (hst : Keeps [] w0 w) => ref01_digit vb lb' b i hi w (hb.keep hst)
  obtain ⟨han, _, aa, capa, rfl, _, _⟩ := ha
  obtain ⟨hbn, _, ab, capb, rfl, _, _⟩ := hb
  go_enter Tryz.func8, Tryz.ntmps8
  go_wp2_with ((first | (refine wl_slice1 (o := ⟨some 28, _, _, _, _, _⟩) hst ts31 te57 rfl rfl (by (simp only [eval_lit, eval_k, eval_f, eval_g, List.getD_cons_succ, List.getD_cons_zero]) <;> rfl) (by rfl) ?_; clear hst; intro b28 w hb28 hst)); try simp only [pz, pn, sz, sc])
  go_loopw [7, 6, 5, 8] (fun vi vc vo vd wr => ∃ (i c s : Nat) (Lg : List (Nat × Obj)), i ≤ la ∧ vi = .int .i64 i ∧ vc = .int .u64 c ∧ c ≤ 1 ∧ s < C ^ i ∧ s + b % C ^ i = a % C ^ i + c * C ^ i ∧ GRow w0 Lg 57 1 vo i (uc i s) ∧ St w0 [] Lg wr) (fun vi _ _ _ _ => la - (intOf vi).toNat)
  case atStart => exact ⟨0, 0, 0, [], by omega, rfl, rfl, by omega, by simp, by simp [Nat.mod_one], GRow.nil _ _ _, hst⟩
  case round =>
    clear hst
    obtain ⟨i, c, s, Lg, hi, rfl, rfl, hc, hs, he, hgr, hst⟩ := hrel
    by_cases hlt : i < la
    · have hdai := hda i (by omega)
      have hdbi := hdb i (by omega)
      have hsa := dg_split a i
      have hsb := dg_split b i
      have hx := dg_lt a i
      have hy := dg_lt b i
      generalize dg a i = x at *
      generalize dg b i = y at *
      obtain ⟨t1, ht1⟩ : ∃ t1, t1 = x + C := ⟨_, rfl⟩
      obtain ⟨t2, ht2⟩ : ∃ t2, t2 = t1 - y := ⟨_, rfl⟩
      obtain ⟨t3, ht3⟩ : ∃ t3, t3 = t2 - c := ⟨_, rfl⟩
      obtain ⟨r, hr⟩ : ∃ r, r = t3 % C := ⟨_, rfl⟩
      obtain ⟨q, hq⟩ : ∃ q, q = t3 / C := ⟨_, rfl⟩
      have hrC : r < C := by rw [hr]; exact Nat.mod_lt _ C_pos
      have hsn := uc_snoc s r i hs hrC
      have hsl := add_lt_C s r i hs hrC
      have hqr : C * q + r = t3 := by rw [hq, hr]; exact Nat.div_add_mod _ _
      have hsum : r + y + c + q * C = x + C := by rw [Nat.mul_comm q]; rw [C_val] at *; omega
      rw [C_val] at hx hy hqr hrC hr hq ht1
      have hq1 : q ≤ 1 := by omega
      have F1 : IntKind.u64.wrap ((x : Int) + 4294967296) = (t1 : Int) := u64_wrap' _ t1 _ (by omega) (by rw [B_val]; omega)
      have F2 : IntKind.u64.wrap ((t1 : Int) - (y : Int)) = (t2 : Int) := u64_wrap' _ t2 _ (by omega) (by rw [B_val]; omega)
      have F2' : IntKind.u64.wrap ((t2 : Int) - (c : Int)) = (t3 : Int) := u64_wrap' _ t3 _ (by omega) (by rw [B_val]; omega)
      have F3 : IntKind.u32.wrap (t3 : Int) = (r : Int) := by rw [u32_wrap, C_val, hr]
      have F4 : (t3 : Int) / 4294967296 = (q : Int) := by omega
      have F5 : IntKind.u64.wrap (1 - (q : Int)) = ((1 - q : Nat) : Int) := u64_wrap' _ (1 - q) _ (by omega) (by rw [B_val]; omega)
      have he' : s + r * C ^ i + b % C ^ (i + 1) = a % C ^ (i + 1) + (1 - q) * C ^ (i + 1) := by
        rw [hsa, hsb]
        have e1 : (r + y + c + q * C) * C ^ i = (x + C) * C ^ i := by rw [hsum]
        rw [Nat.add_mul, Nat.add_mul, Nat.add_mul, Nat.add_mul] at e1
        have e2 : (1 - q) * C ^ (i + 1) + q * C * C ^ i = C * C ^ i := by
          rw [Nat.mul_assoc, ← Nat.pow_succ', ← Nat.add_mul, show 1 - q + q = 1 by omega, Nat.one_mul, Nat.pow_succ']
        omega
      have hsn' := Lib.hid hsn
      have he'' := Lib.hid he'
      have hi1 : (i : Int) < (la : Int) := by omega
      have hi2 : i ≤ 100000 := by omega
      clear he hsa hsb hx hy ht1 ht2 ht3 hr hq hqr hrC hsn he' hs hc hlt hi hsum
      go_wp2_with ((first | (refine kg gf28 hst (fun w hst => hdai w hst.keeps) rfl rfl rfl rfl ?_; clear hst; intro w hst) | (refine kg gf28 hst (fun w hst => hdbi w hst.keeps) rfl rfl rfl rfl ?_; clear hst; intro w hst) | (refine wl_append1 (bytes := 4) (o := ⟨some 29, _, _, _, _, _⟩) hgr hst ts31 te57 (show BytesT _ _ _ by unfold BytesT; kernel_rfl) rfl rfl (by rfl) (by rfl) (by repeat (first | exact Tl.here | apply Tl.there)) (by rfl) (by rfl) (by omega) (by omega) ?_; clear hst hgr; intro v29 Lg w hgr hst; (try simp only [List.cons_append, List.nil_append] at hst); (try simp only [pz, pn, sz, sc])) | (refine wl_slice1 (o := ⟨some 28, _, _, _, _, _⟩) hst ts31 te57 rfl rfl (by (simp only [eval_lit, eval_k, eval_f, eval_g, List.getD_cons_succ, List.getD_cons_zero]) <;> rfl) (by rfl) ?_; clear hst; intro b28 w hb28 hst)); try simp only [pz, pn, sz, sc])
      refine ⟨⟨i + 1, 1 - q, s + r * C ^ i, _, by omega, by go_num, rfl, by omega, hsl, he''.out, by rw [← hsn'.out]; exact hgr, hst⟩, ?_⟩
      simp [intOf]; omega
    · have hie : i = la := by omega
      subst hie
      rw [Nat.mod_eq_of_lt han, Nat.mod_eq_of_lt (Nat.lt_of_le_of_lt hab han)] at he
      have hc0 : c = 0 := by
        rcases Nat.eq_zero_or_pos c with h | h
        · exact h
        · have : 1 * C ^ i ≤ c * C ^ i := Nat.mul_le_mul_right _ h
          omega
      subst hc0
      rw [Nat.zero_mul, Nat.add_zero] at he
      obtain rfl : s = a - b := by omega
      obtain ⟨ao, co, rfl, hat, hbi⟩ := hgr.big (L := Lg) hs (by omega) (fun x h => h)
      have htr := fun w hst => ref01_trim ao i co (a - b) w (hat [] w hst)
      have hi1 : ¬ ((i : Int) < (i : Int)) := by omega
      clear hs hi hat he hab
      go_wp2_with ((first | (refine kg gf29 hst (htr) rfl rfl rfl rfl ?_; clear hst; intro w hst) | (refine wl_slice1 (o := ⟨some 28, _, _, _, _, _⟩) hst ts31 te57 rfl rfl (by (simp only [eval_lit, eval_k, eval_f, eval_g, List.getD_cons_succ, List.getD_cons_zero]) <;> rfl) (by rfl) ?_; clear hst; intro b28 w hb28 hst)); try simp only [pz, pn, sz, sc])
      refine bp_t rfl rfl (by rfl) (PostB.of hst hbi (fun x h => h))

end Go.Proofs.YtojjmcghcgidlaaGreatDoor.Rd
