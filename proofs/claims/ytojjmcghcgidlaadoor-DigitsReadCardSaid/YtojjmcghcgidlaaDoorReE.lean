/- What the reference's Mul answers. -/
import Derived.Test.YtojjmcghcgidlaaDoorReD
namespace Go.Proofs.YtojjmcghcgidlaaDoor.Rd
open Go Go.RowKit
set_option linter.unusedVariables false
set_option linter.unusedSimpArgs false
set_option maxRecDepth 100000

set_option maxHeartbeats 8000000 in
theorem ref01_Mul (va vb : Value) (la lb' a b : Nat) (w0 : World) (ha : BigAt w0 va la a) (hb : BigAt w0 vb lb' b) (hla : la ≤ 100000) (hlb : lb' ≤ 100000) : GivesB Tryd.prog 28 #[va, vb] (a * b) w0 := by
  have hst := St.start [] w0
  obtain ⟨han, _, aa, capa, rfl, _, hmema⟩ := ha
  obtain ⟨hbn, _, ab, capb, rfl, _, hmemb⟩ := hb
  obtain ⟨L, hL⟩ : ∃ L, L = la + lb' := ⟨_, rfl⟩
  have hL' : (la : Int) + (lb' : Int) = (L : Int) := by omega
  have hLl : L ≤ 200000 := by omega
  have hL1 : la + lb' ≤ L := by omega
  have hL2 : L ≤ la + lb' := by omega
  clear hL
  have hmade := made_u32 L
  have hmade' := Lib.hid hmade
  clear hmade
  go_enter Tryd.func28, Tryd.ntmps28
  go_wp2_with ((first | (refine wl_make (bytes := 4) (o := ⟨some 14, _, _, _, _, _⟩) hst (show SliceT _ 31 48 by unfold SliceT; kernel_rfl) (show ElemT _ 48 1 (.int .u32 0) from ElemT.of (by kernel_rfl)) (show BytesT _ _ _ by unfold BytesT; kernel_rfl) rfl rfl (by rfl) (by rfl) hmade'.out (by omega) (by omega) ?_; clear hst; intro b14 w hb14 hst; (try simp only [pz, pn, sz, sc])) | (refine kc hst tc48 rfl ?_) | (refine ks hst tc48 rfl rfl ?_; clear hst; intro w hst)); try simp only [pz, pn, sz, sc])
  go_loopw [6] (fun vi wr => ∃ (i : Nat), i ≤ la ∧ vi = .int .i64 i ∧ St w0 [] [(b14, .cells (uw L (a % C ^ i * b)) 48 (0, 0))] wr) (fun vi _ => la - (intOf vi).toNat)
  case atStart => exact ⟨0, by omega, rfl, by simpa [Nat.mod_one] using hst⟩
  case round =>
    clear hst
    obtain ⟨i, hi, rfl, hst⟩ := hrel
    by_cases hlt : i < la
    · have hila : (i : Int) < (la : Int) := by omega
      have h0i : (0 : Int) ≤ (i : Int) := by omega
      have hm0 : a % C ^ i * b < C ^ (i + lb') := by
        rw [Nat.pow_add]
        exact Nat.mul_lt_mul'' (Nat.mod_lt _ (Cp_pos i)) hbn
      go_wp2_with ((first | (refine kc hst tc48 rfl ?_) | (refine ks hst tc48 rfl rfl ?_; clear hst; intro w hst)); try simp only [pz, pn, sz, sc])
      go_loopw [8, 7] (fun vk vc wr => ∃ (k c m : Nat), k ≤ lb' ∧ vk = .int .i64 k ∧ vc = .int .u64 c ∧ c < C ∧ m < C ^ (i + lb') ∧ m + c * C ^ (i + k) = a % C ^ i * b + dg a i * (b % C ^ k) * C ^ i ∧ St w0 [] [(b14, .cells (uw L m) 48 (0, 0))] wr) (fun vk _ _ => lb' - (intOf vk).toNat)
      case atStart => exact ⟨0, 0, _, by omega, rfl, rfl, C_pos, hm0, by simp [Nat.mod_one], hst⟩
      case round =>
        clear hst hm0
        obtain ⟨k, c, m, hk, rfl, rfl, hc, hm, he, hst⟩ := hrel
        by_cases hkl : k < lb'
        · obtain ⟨ga, cura, Ea, rfl, hga, hca⟩ := hmema (by omega)
          obtain ⟨gb, curb, Eb, rfl, hgb, hcb⟩ := hmemb (by omega)
          have hcx := hca i hlt
          have hcy := hcb k hkl
          have hx := dg_lt a i
          have hy := dg_lt b k
          have hsb := dg_split b k
          obtain ⟨j, hj⟩ : ∃ j, j = i + k := ⟨_, rfl⟩
          have hej := uw_get L m j (by omega)
          have hed := dg_lt m j
          obtain ⟨s1, s2, s3⟩ := mul_step m j c (dg a i) (dg b k) hc hx hy
          have hsl := setC_lt m j ((c + dg m j + dg a i * dg b k) % C) (i + lb') hm (Nat.mod_lt _ C_pos) (by omega)
          have hset := uw_setC L m j ((c + dg m j + dg a i * dg b k) % C) (Nat.mod_lt _ C_pos)
          have he' : setC m j ((c + dg m j + dg a i * dg b k) % C) + (c + dg m j + dg a i * dg b k) / C * C ^ (i + (k + 1)) = a % C ^ i * b + dg a i * (b % C ^ (k + 1)) * C ^ i := by
            rw [show i + (k + 1) = j + 1 by omega, s3, hsb, hj, he, Nat.mul_add, Nat.add_mul, Nat.pow_add]
            have e1 : dg a i * (dg b k * C ^ k) * C ^ i = dg a i * dg b k * (C ^ i * C ^ k) := by
              rw [Nat.mul_comm (C ^ i), ← Nat.mul_assoc, ← Nat.mul_assoc]
            omega
          obtain ⟨x, hx'⟩ : ∃ x, x = dg a i := ⟨_, rfl⟩
          rw [← hx'] at hset he' hsl hcx s1 s2 hx
          generalize dg b k = y at *
          generalize dg m j = e at *
          obtain ⟨p, hp⟩ : ∃ p, p = x * y := ⟨_, rfl⟩
          obtain ⟨t1, ht1⟩ : ∃ t1, t1 = c + e := ⟨_, rfl⟩
          obtain ⟨t2, ht2⟩ : ∃ t2, t2 = c + e + x * y := ⟨_, rfl⟩
          rw [← ht2] at hset he' hsl s1 s2
          obtain ⟨d, hd⟩ : ∃ d, d = t2 % C := ⟨_, rfl⟩
          obtain ⟨q, hq⟩ : ∃ q, q = t2 / C := ⟨_, rfl⟩
          rw [← hd] at hset he' hsl
          rw [← hq] at he' s2
          have hCC : C * C = B := by decide
          rw [hCC] at s1
          have hpB : p < B := by omega
          rw [C_val] at hx hy hed hc
          have W1 : IntKind.u64.wrap (x : Int) = (x : Int) := by rw [u64_wrap, Nat.mod_eq_of_lt (by rw [B_val]; omega)]
          have W2 : IntKind.u64.wrap (y : Int) = (y : Int) := by rw [u64_wrap, Nat.mod_eq_of_lt (by rw [B_val]; omega)]
          have W3 : IntKind.u64.wrap (e : Int) = (e : Int) := by rw [u64_wrap, Nat.mod_eq_of_lt (by rw [B_val]; omega)]
          have W4 : IntKind.u64.wrap ((x : Int) * (y : Int)) = (p : Int) := u64_wrap' _ p _ (by rw [hp]; exact (Int.natCast_mul _ _).symm) (Nat.mod_eq_of_lt hpB)
          have W5 : IntKind.u64.wrap ((c : Int) + (e : Int)) = (t1 : Int) := u64_wrap' _ t1 _ (by omega) (Nat.mod_eq_of_lt (by rw [B_val]; omega))
          have W6 : IntKind.u64.wrap ((t1 : Int) + (p : Int)) = (t2 : Int) := u64_wrap' _ t2 _ (by omega) (Nat.mod_eq_of_lt s1)
          have W7 : IntKind.u32.wrap (t2 : Int) = (d : Int) := by rw [u32_wrap, hd]
          have W8 : (t2 : Int) / 4294967296 = (q : Int) := by rw [C_val] at hq; omega
          have J1 : (i : Int) + (k : Int) = (j : Int) := by omega
          have J2 : (0 : Int) ≤ (j : Int) := by omega
          have J5 : IntKind.i64.wrap (j : Int) = (j : Int) := by rw [IntKind.wrap_i64]; omega
          have J3 : (j : Int) < (L : Int) := by omega
          have J4 : j < L := by omega
          have K1 : (0 : Int) ≤ (k : Int) := by omega
          have K2 : (k : Int) < (lb' : Int) := by omega
          have hset' := Lib.hid hset
          have he'' := Lib.hid he'
          have s2' := Lib.hid s2
          have hsl' := Lib.hid hsl
          have hga' := Lib.hid hga
          have hgb' := Lib.hid hgb
          have hxx := Lib.hid hx'
          clear hset he' s2 hsl s1 s3 he hm hc hed hsb hy hx hd hq ht1 ht2 hp hpB hCC hca hcb hga hgb hj hx' hmema hmemb hL2
          go_wp2_with ((first | (refine kc hst tc48 rfl ?_) | (refine ks hst tc48 rfl rfl ?_; clear hst; intro w hst)); try simp only [pz, pn, sz, sc])
          refine wp_region_T 22  hst (by kernel_rfl) ?_; clear hst; intro w hst; (try dsimp only [List.length_cons, List.length_nil]); (try simp only [List.length_cons, List.length_nil, Nat.reduceAdd, Array.replicate_succ, Array.replicate_zero, List.push_toArray, List.nil_append, List.cons_append])
          refine r0 0 ?_; simp only [pz, pn, sz, sc]
          refine r0 1 ?_; simp only [pz, pn, sz, sc]
          refine r0 2 ?_; simp only [pz, pn, sz, sc]
          refine r0 3 ?_; simp only [pz, pn, sz, sc]
          refine r0 4 ?_; simp only [pz, pn, sz, sc]
          refine r0 5 ?_; simp only [pz, pn, sz, sc]
          refine r0 9 ?_; simp only [pz, pn, sz, sc]
          refine r0 10 ?_; simp only [pz, pn, sz, sc]
          refine r0 11 ?_; simp only [pz, pn, sz, sc]
          refine r0 14 ?_; simp only [pz, pn, sz, sc]
          refine r0 15 ?_; simp only [pz, pn, sz, sc]
          refine r0 16 ?_; simp only [pz, pn, sz, sc]
          refine rl 6 rfl ?_ (by first | exact fun w hw => run_opLoadOld hw.keeps tc48 rfl (by rfl) hga'.out hcx | exact fun w hw => run_opLoadOld hw.keeps tc48 rfl (by rfl) hgb'.out hcy | exact ylC tc48); simp only [pz, pn, sz, sc]
          refine r0 7 ?_; simp only [pz, pn, sz, sc]
          refine r0 8 ?_; simp only [pz, pn, sz, sc]
          refine rl 12 rfl ?_ (by first | exact fun w hw => run_opLoadOld hw.keeps tc48 rfl (by rfl) hga'.out hcx | exact fun w hw => run_opLoadOld hw.keeps tc48 rfl (by rfl) hgb'.out hcy | exact ylC tc48); simp only [pz, pn, sz, sc]
          refine r0 13 ?_; simp only [pz, pn, sz, sc]
          refine rl 17 rfl ?_ (by first | exact fun w hw => run_opLoadOld hw.keeps tc48 rfl (by rfl) hga'.out hcx | exact fun w hw => run_opLoadOld hw.keeps tc48 rfl (by rfl) hgb'.out hcy | exact ylC tc48); simp only [pz, pn, sz, sc]
          refine r0 18 ?_; simp only [pz, pn, sz, sc]
          refine r0 19 ?_; simp only [pz, pn, sz, sc]
          refine r0 20 ?_; simp only [pz, pn, sz, sc]
          refine r0 21 ?_; simp only [pz, pn, sz, sc]
          refine rd_ ?_
          go_wp2_with ((first | (refine kc hst tc48 rfl ?_) | (refine ks hst tc48 rfl rfl ?_; clear hst; intro w hst; (try rw [hset'.out] at hst))); try simp only [pz, pn, sz, sc])
          refine ⟨⟨k + 1, q, _, by omega, by go_num, rfl, s2'.out, hsl'.out, by rw [← hxx.out]; exact he''.out, hst⟩, ?_⟩
          simp [intOf]; omega
        · have hke : k = lb' := by omega
          subst hke
          rw [Nat.mod_eq_of_lt hbn] at he
          obtain ⟨j, hj⟩ : ∃ j, j = i + k := ⟨_, rfl⟩
          have hz : dg m j = 0 := dg_ge hm (by omega)
          have hset := uw_setC L m j c hc
          have hse := setC_eq m j c
          rw [hz, Nat.zero_mul, Nat.add_zero, hj, he] at hse
          have hfin : a % C ^ i * b + dg a i * b * C ^ i = a % C ^ (i + 1) * b := by
            rw [dg_split, Nat.add_mul, Nat.mul_right_comm]
          rw [hfin] at hse
          rw [hj, hse] at hset
          have W1 : IntKind.u32.wrap (c : Int) = (c : Int) := by rw [u32_wrap, Nat.mod_eq_of_lt hc]
          have J1 : (i : Int) + (k : Int) = (j : Int) := by omega
          have J2 : (0 : Int) ≤ (j : Int) := by omega
          have J3 : (j : Int) < (L : Int) := by omega
          have J4 : j < L := by omega
          have J5 : IntKind.i64.wrap (j : Int) = (j : Int) := by rw [IntKind.wrap_i64]; omega
          rw [← hj] at hset
          have hset' := Lib.hid hset
          have hkl' : ¬ ((k : Int) < (k : Int)) := by omega
          clear hset hse hfin hz he hm hc hj hmema hmemb hL2 hkl hk hbn han
          go_wp2_with ((first | (refine kc hst tc48 rfl ?_) | (refine ks hst tc48 rfl rfl ?_; clear hst; intro w hst; (try rw [hset'.out] at hst))); try simp only [pz, pn, sz, sc])
          refine ⟨⟨i + 1, by omega, by go_num, hst⟩, ?_⟩
          simp [intOf]; omega
    · have hie : i = la := by omega
      subst hie
      rw [Nat.mod_eq_of_lt han] at hst
      have hV : a * b < C ^ L := by
        refine Nat.lt_of_lt_of_le ?_ (Nat.pow_le_pow_right C_pos hL1)
        rw [Nat.pow_add]
        exact Nat.mul_lt_mul'' han hbn
      obtain ⟨hat, hbi⟩ := big_of_uw (E := 48) (L := [(b14, .cells (uw L (a * b)) 48 (0, 0))]) hV (by omega) hb14 (by simp)
      have htr := fun w hst => ref01_trim (some ⟨b14, 0, none⟩) L L (a * b) w (hat [] w hst)
      have hi1 : ¬ ((i : Int) < (i : Int)) := by omega
      clear hat hV hlt hi hmema hmemb han hbn
      go_wp2_with ((first | (refine kg gf43 hst (htr) rfl rfl rfl rfl ?_; clear hst; intro w hst) | (refine kc hst tc48 rfl ?_) | (refine ks hst tc48 rfl rfl ?_; clear hst; intro w hst)); try simp only [pz, pn, sz, sc])
      refine bp_t rfl rfl (by rfl) (PostB.of hst hbi (fun x h => h))

end Go.Proofs.YtojjmcghcgidlaaDoor.Rd
