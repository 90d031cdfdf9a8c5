/- What the reference's Shr answers. -/
import Derived.Test.YtojjmcghcgidlaaDoorRdX
namespace Go.Proofs.YtojjmcghcgidlaaDoor.Rd
open Go Go.RowKit
set_option linter.unusedVariables false
set_option linter.unusedSimpArgs false
set_option maxRecDepth 100000

theorem or_low' (a b s : Nat) (ha : a * 2 ^ s < B) (hb : b < 2 ^ s) (hB : b < B) : bits .or .u64 (b : Int) ((a * 2 ^ s : Nat) : Int) = ((b + a * 2 ^ s : Nat) : Int) := by
  rw [bits_or_u64_nat _ _ (by rw [← B_val]; exact hB) (by rw [← B_val]; exact ha)]
  congr 1
  rw [Nat.or_comm, Nat.mul_comm, Nat.add_comm b, Nat.two_pow_add_eq_or_of_lt hb]

theorem dg_shift (n k i : Nat) : dg (n / C ^ k) i = dg n (k + i) := by
  unfold dg
  rw [Nat.div_div_eq_div_mul, ← Nat.pow_add]
theorem dg_two (n i : Nat) : dg n i + dg n (i + 1) * C = n / C ^ i % (C * C) := by
  have h : n / C ^ (i + 1) = n / C ^ i / C := by rw [Nat.pow_succ, Nat.div_div_eq_div_mul]
  unfold dg
  rw [h, Nat.mod_mul]
  rw [Nat.mul_comm C]
theorem two_pow_32 (k : Nat) : 2 ^ k = C ^ (k / 32) * 2 ^ (k % 32) := by
  rw [C_pow, ← Nat.pow_add]
  congr 1
  omega
theorem shr_digit (n k j : Nat) : (dg n (k / 32 + j) + dg n (k / 32 + j + 1) * C) / 2 ^ (k % 32) % C = dg (n / 2 ^ k) j := by
  rw [dg_two, two_pow_32 k, ← Nat.div_div_eq_div_mul]
  unfold dg
  have e1 : n / C ^ (k / 32) / 2 ^ (k % 32) / C ^ j = n / C ^ (k / 32 + j) / 2 ^ (k % 32) := by
    rw [Nat.div_div_eq_div_mul, Nat.div_div_eq_div_mul, Nat.div_div_eq_div_mul, Nat.pow_add]
    congr 1
    rw [Nat.mul_assoc, Nat.mul_comm (C ^ j)]
  rw [e1]
  generalize n / C ^ (k / 32 + j) = x
  have hr : k % 32 < 32 := Nat.mod_lt _ (by omega)
  generalize k % 32 = r at *
  have e2 : C * C = 2 ^ r * C * 2 ^ (32 - r) := by
    rw [Nat.mul_right_comm, ← Nat.pow_add, show r + (32 - r) = 32 by omega]
    rfl
  rw [← Nat.mod_mul_right_div_self, ← Nat.mod_mul_right_div_self x, e2, Nat.mod_mul_right_mod]

set_option maxHeartbeats 8000000 in
theorem ref01_Shr (va : Value) (la a k : Nat) (w0 : World) (ha : BigAt w0 va la a) (hla : la ≤ 100000) (hk : k ≤ 100000) : GivesB Tryd.prog 22 #[va, .int .i64 k] (a / 2 ^ k) w0 := by
  have hst := St.start [] w0
  have hda := fun (i : Nat) (hi : i ≤ 1000000) (w : World) (hst : Keeps [] w0 w) => ref01_digit va la a i hi w (ha.keep hst)
  obtain ⟨han, _, aa, capa, rfl, _, _⟩ := ha
  have hsh := shr_digit a k
  have hmp : a / 2 ^ k < C ^ (la - k / 32) := by
    rw [Nat.div_lt_iff_lt_mul (Nat.pow_pos (by omega)), two_pow_32 k, ← Nat.mul_assoc, ← Nat.pow_add]
    refine Nat.lt_of_lt_of_le han ?_
    refine Nat.le_trans (Nat.pow_le_pow_right C_pos (show la ≤ la - k / 32 + k / 32 by omega)) ?_
    exact Nat.le_mul_of_pos_right _ (Nat.pow_pos (by omega))
  obtain ⟨q, hq⟩ : ∃ q, q = k / 32 := ⟨_, rfl⟩
  obtain ⟨r, hr⟩ : ∃ r, r = k % 32 := ⟨_, rfl⟩
  have Q1 : (k : Int) / 32 = (q : Int) := by omega
  have Q2 : (k : Int) % 32 = (r : Int) := by omega
  have Q3 : (0 : Int) ≤ (k : Int) := by omega
  have hr32 : r < 32 := by omega
  rw [← hq] at hmp hsh
  rw [← hr] at hsh
  have hqk : q ≤ 100000 := by omega
  generalize a / 2 ^ k = m at *
  clear hq hr
  have hsh' := Lib.hid hsh
  have hmp' := Lib.hid hmp
  clear hsh hmp
  go_enter Tryd.func22, Tryd.ntmps22
  go_wp2_with ((first | (refine wl_slice1 (o := ⟨some 29, _, _, _, _, _⟩) hst ts31 te48 rfl rfl (by (simp only [eval_lit, eval_k, eval_f, eval_g, List.getD_cons_succ, List.getD_cons_zero]) <;> rfl) (by rfl) ?_; clear hst; intro b29 w hb29 hst)); try simp only [pz, pn, sz, sc])
  go_loopw [6, 5] (fun vi vo wr => ∃ (j : Nat) (Lg : List (Nat × Obj)), j ≤ la - q ∧ vi = .int .i64 (q + j : Nat) ∧ GRow w0 Lg 48 1 vo j (uc j (m % C ^ j)) ∧ St w0 [] Lg wr) (fun vi _ _ => la - (intOf vi).toNat)
  case atStart => exact ⟨0, [], by omega, by go_num, GRow.nil _ _ _, hst⟩
  case round =>
    clear hst
    obtain ⟨j, Lg, hj, rfl, hgr, hst⟩ := hrel
    by_cases hlt : j < la - q
    · have hd1 := hda (q + j) (by omega)
      have hd2 := hda (q + j + 1) (by omega)
      have hsj := hsh'.out j
      have hx := dg_lt a (q + j)
      have hy := dg_lt a (q + j + 1)
      have hsn := uc_snoc (m % C ^ j) (dg m j) j (Nat.mod_lt _ (Cp_pos j)) (dg_lt _ _)
      rw [← dg_split] at hsn
      have hil : q + j < la := by omega
      have hm1 : la - (q + j + 1) < la - (q + j) := by omega
      rw [← hsj] at hsn
      generalize dg a (q + j) = x at *
      generalize dg a (q + j + 1) = y at *
      rw [show ((q + j + 1 : Nat) : Int) = ((q + j : Nat) : Int) + 1 by omega] at hd2
      obtain ⟨i, hi⟩ : ∃ i, i = q + j := ⟨_, rfl⟩
      rw [← hi] at hd1 hd2 hil hm1
      have hi' := Lib.hid hi
      rw [← hi]
      obtain ⟨Z, hZ⟩ : ∃ Z, Z = y * C := ⟨_, rfl⟩
      obtain ⟨T, hT⟩ : ∃ T, T = x + y * C := ⟨_, rfl⟩
      obtain ⟨U, hU⟩ : ∃ U, U = (x + y * C) / 2 ^ r := ⟨_, rfl⟩
      obtain ⟨d, hd⟩ : ∃ d, d = (x + y * C) / 2 ^ r % C := ⟨_, rfl⟩
      rw [← hd] at hsn
      rw [C_val] at hx hy
      have hZB : y * C < B := by rw [C_val, B_val]; omega
      have hTB : x + y * C < B := by rw [C_val, B_val]; omega
      have F0 : IntKind.u64.wrap ((y : Int) * 4294967296) = (Z : Int) := u64_wrap' _ Z _ (by rw [hZ, C_val]; omega) (Nat.mod_eq_of_lt (by rw [hZ]; exact hZB))
      have F1 : bits .or .u64 (x : Int) (Z : Int) = (T : Int) := by
        have := or_low' y x 32 hZB hx (Nat.lt_trans hx (by rw [B_val]; omega))
        rw [hZ, hT]; exact this
      have F2 : (T : Int) / 2 ^ r = (U : Int) := by
        rw [cast_pow2, hT, hU]; exact (Int.natCast_ediv _ _).symm
      have F3 : IntKind.u32.wrap (U : Int) = (d : Int) := by rw [u32_wrap, hd, hU]
      have hsn' := Lib.hid hsn
      have hi1 : (i : Int) < (la : Int) := by omega
      have hjj : j < 200000 := by omega
      have hj1 : j + 1 ≤ la - q := by omega
      have hr1 : (0 : Int) ≤ (r : Int) := by omega
      have hr2 : (r : Int) < 32 := by omega
      clear hsn hsj hx hy hZB hTB hZ hT hU hd hi hil hlt hj
      go_wp2_with ((first | (refine kg gf44 hst (fun w hst => hd1 w hst.keeps) rfl rfl rfl rfl ?_; clear hst; intro w hst) | (refine kg gf44 hst (fun w hst => hd2 w hst.keeps) rfl rfl rfl rfl ?_; clear hst; intro w hst) | (refine wl_append1 (bytes := 4) (o := ⟨some 30, _, _, _, _, _⟩) hgr hst ts31 te48 (show BytesT _ _ _ by unfold BytesT; kernel_rfl) rfl rfl (by rfl) (by rfl) (by repeat (first | exact Tl.here | apply Tl.there)) (by rfl) (by rfl) (by omega) (by omega) ?_; clear hst hgr; intro v30 Lg w hgr hst; (try simp only [List.cons_append, List.nil_append] at hst); (try simp only [pz, pn, sz, sc])) | (refine wl_slice1 (o := ⟨some 29, _, _, _, _, _⟩) hst ts31 te48 rfl rfl (by (simp only [eval_lit, eval_k, eval_f, eval_g, List.getD_cons_succ, List.getD_cons_zero]) <;> rfl) (by rfl) ?_; clear hst; intro b29 w hb29 hst)); try simp only [pz, pn, sz, sc])
      refine ⟨⟨j + 1, _, hj1, by rw [hi'.out]; go_num, by rw [← hsn'.out]; exact hgr, hst⟩, ?_⟩
      simp [intOf]; omega
    · have hje : j = la - q := by omega
      subst hje
      have h1 := hmp'.out
      rw [Nat.mod_eq_of_lt h1] at hgr
      obtain ⟨ao, co, rfl, hat, hbi⟩ := hgr.big (L := Lg) h1 (by omega) (fun x h => h)
      have htr := fun w hst => ref01_trim ao (la - q) co m w (hat [] w hst)
      obtain ⟨i, hi⟩ : ∃ i, i = q + (la - q) := ⟨_, rfl⟩
      rw [← hi]
      have hi1 : ¬ ((i : Int) < (la : Int)) := by omega
      clear h1 hat hlt hj hi hgr
      go_wp2_with ((first | (refine kg gf43 hst (htr) rfl rfl rfl rfl ?_; clear hst; intro w hst) | (refine wl_slice1 (o := ⟨some 29, _, _, _, _, _⟩) hst ts31 te48 rfl rfl (by (simp only [eval_lit, eval_k, eval_f, eval_g, List.getD_cons_succ, List.getD_cons_zero]) <;> rfl) (by rfl) ?_; clear hst; intro b29 w hb29 hst)); try simp only [pz, pn, sz, sc])
      refine bp_t rfl rfl (by rfl) (PostB.of hst hbi (fun x h => h))

end Go.Proofs.YtojjmcghcgidlaaDoor.Rd
