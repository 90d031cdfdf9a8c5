/- What root.Hypot answers. -/
import Derived.Test.YtefpoconpeggpaaGreatDoorK09
import Derived.Test.YtefpoconpeggpaaGreatDoorK28
import Derived.Test.YtefpoconpeggpaaGreatDoorK19
import Derived.Test.YtefpoconpeggpaaGreatDoorK26
namespace Go.Proofs.YtefpoconpeggpaaGreatDoor.Rd
open Go Go.RowKit
set_option linter.unusedVariables false
set_option linter.unusedSimpArgs false
set_option maxRecDepth 100000

set_option maxHeartbeats 8000000 in
theorem ref01_Mul (va vb : Value) (la lb' a b : Nat) (w0 : World) (ha : BigAt w0 va la a) (hb : BigAt w0 vb lb' b) (hla : la ≤ 100000) (hlb : lb' ≤ 100000) : GivesB Tryz.prog 38 #[va, vb] (a * b) w0 := by
  have hst := St.start [] w0
  obtain ⟨han, _, aa, capa, rfl, _, hmema⟩ := ha
  obtain ⟨hbn, _, ab, capb, rfl, _, hmemb⟩ := hb
  obtain ⟨L, hL⟩ : ∃ L, L = la + lb' := ⟨_, rfl⟩
  have hL' : (la : Int) + (lb' : Int) = (L : Int) := by omega
  have hLl : L ≤ 200000 := by omega
  have hL1 : la + lb' ≤ L := by omega
  have hL2 : L ≤ la + lb' := by omega
  clear hL
  have hmade := made_u32 L
  have hmade' := Lib.hid hmade
  clear hmade
  go_enter Tryz.func38, Tryz.ntmps38
  go_wp2_with ((first | (refine wl_make (bytes := 4) (o := ⟨some 14, _, _, _, _, _⟩) hst (show SliceT _ 39 72 by unfold SliceT; kernel_rfl) (show ElemT _ 72 1 (.int .u32 0) from ElemT.of (by kernel_rfl)) (show BytesT _ _ _ by unfold BytesT; kernel_rfl) rfl rfl (by rfl) (by rfl) hmade'.out (by omega) (by omega) ?_; clear hst; intro b14 w hb14 hst; (try simp only [pz, pn, sz, sc]))); try simp only [pz, pn, sz, sc])
  go_loopw [6] (fun vi wr => ∃ (i : Nat), i ≤ la ∧ vi = .int .i64 i ∧ St w0 [] [(b14, .cells (uw L (a % C ^ i * b)) 72 (0, 0))] wr) (fun vi _ => la - (intOf vi).toNat)
  case atStart => exact ⟨0, by omega, rfl, by simpa [Nat.mod_one] using hst⟩
  case round =>
    clear hst
    obtain ⟨i, hi, rfl, hst⟩ := hrel
    by_cases hlt : i < la
    · have hila : (i : Int) < (la : Int) := by omega
      have h0i : (0 : Int) ≤ (i : Int) := by omega
      have hm0 : a % C ^ i * b < C ^ (i + lb') := by
        rw [Nat.pow_add]
        exact Nat.mul_lt_mul'' (Nat.mod_lt _ (Cp_pos i)) hbn
      go_wp2_with fail
      go_loopw [8, 7] (fun vk vc wr => ∃ (k c m : Nat), k ≤ lb' ∧ vk = .int .i64 k ∧ vc = .int .u64 c ∧ c < C ∧ m < C ^ (i + lb') ∧ m + c * C ^ (i + k) = a % C ^ i * b + dg a i * (b % C ^ k) * C ^ i ∧ St w0 [] [(b14, .cells (uw L m) 72 (0, 0))] wr) (fun vk _ _ => lb' - (intOf vk).toNat)
      case atStart => exact ⟨0, 0, _, by omega, rfl, rfl, C_pos, hm0, by simp [Nat.mod_one], hst⟩
      case round =>
        clear hst hm0
        obtain ⟨k, c, m, hk, rfl, rfl, hc, hm, he, hst⟩ := hrel
        by_cases hkl : k < lb'
        · obtain ⟨ga, cura, Ea, rfl, hga, hca⟩ := hmema (by omega)
          obtain ⟨gb, curb, Eb, rfl, hgb, hcb⟩ := hmemb (by omega)
          have hcx := hca i hlt
          have hcy := hcb k hkl
          have hx := dg_lt a i
          have hy := dg_lt b k
          have hsb := dg_split b k
          obtain ⟨j, hj⟩ : ∃ j, j = i + k := ⟨_, rfl⟩
          have hej := uw_get L m j (by omega)
          have hed := dg_lt m j
          obtain ⟨s1, s2, s3⟩ := mul_step m j c (dg a i) (dg b k) hc hx hy
          have hsl := setC_lt m j ((c + dg m j + dg a i * dg b k) % C) (i + lb') hm (Nat.mod_lt _ C_pos) (by omega)
          have hset := uw_setC L m j ((c + dg m j + dg a i * dg b k) % C) (Nat.mod_lt _ C_pos)
          have he' : setC m j ((c + dg m j + dg a i * dg b k) % C) + (c + dg m j + dg a i * dg b k) / C * C ^ (i + (k + 1)) = a % C ^ i * b + dg a i * (b % C ^ (k + 1)) * C ^ i := by
            rw [show i + (k + 1) = j + 1 by omega, s3, hsb, hj, he, Nat.mul_add, Nat.add_mul, Nat.pow_add]
            have e1 : dg a i * (dg b k * C ^ k) * C ^ i = dg a i * dg b k * (C ^ i * C ^ k) := by
              rw [Nat.mul_comm (C ^ i), ← Nat.mul_assoc, ← Nat.mul_assoc]
            omega
          obtain ⟨x, hx'⟩ : ∃ x, x = dg a i := ⟨_, rfl⟩
          rw [← hx'] at hset he' hsl hcx s1 s2 hx
          generalize dg b k = y at *
          generalize dg m j = e at *
          obtain ⟨p, hp⟩ : ∃ p, p = x * y := ⟨_, rfl⟩
          obtain ⟨t1, ht1⟩ : ∃ t1, t1 = c + e := ⟨_, rfl⟩
          obtain ⟨t2, ht2⟩ : ∃ t2, t2 = c + e + x * y := ⟨_, rfl⟩
          rw [← ht2] at hset he' hsl s1 s2
          obtain ⟨d, hd⟩ : ∃ d, d = t2 % C := ⟨_, rfl⟩
          obtain ⟨q, hq⟩ : ∃ q, q = t2 / C := ⟨_, rfl⟩
          rw [← hd] at hset he' hsl
          rw [← hq] at he' s2
          have hCC : C * C = B := by decide
          rw [hCC] at s1
          have hpB : p < B := by omega
          rw [C_val] at hx hy hed hc
          have W1 : IntKind.u64.wrap (x : Int) = (x : Int) := by rw [u64_wrap, Nat.mod_eq_of_lt (by rw [B_val]; omega)]
          have W2 : IntKind.u64.wrap (y : Int) = (y : Int) := by rw [u64_wrap, Nat.mod_eq_of_lt (by rw [B_val]; omega)]
          have W3 : IntKind.u64.wrap (e : Int) = (e : Int) := by rw [u64_wrap, Nat.mod_eq_of_lt (by rw [B_val]; omega)]
          have W4 : IntKind.u64.wrap ((x : Int) * (y : Int)) = (p : Int) := u64_wrap' _ p _ (by rw [hp]; exact (Int.natCast_mul _ _).symm) (Nat.mod_eq_of_lt hpB)
          have W5 : IntKind.u64.wrap ((c : Int) + (e : Int)) = (t1 : Int) := u64_wrap' _ t1 _ (by omega) (Nat.mod_eq_of_lt (by rw [B_val]; omega))
          have W6 : IntKind.u64.wrap ((t1 : Int) + (p : Int)) = (t2 : Int) := u64_wrap' _ t2 _ (by omega) (Nat.mod_eq_of_lt s1)
          have W7 : IntKind.u32.wrap (t2 : Int) = (d : Int) := by rw [u32_wrap, hd]
          have W8 : (t2 : Int) / 4294967296 = (q : Int) := by rw [C_val] at hq; omega
          have J1 : (i : Int) + (k : Int) = (j : Int) := by omega
          have J2 : (0 : Int) ≤ (j : Int) := by omega
          have J5 : IntKind.i64.wrap (j : Int) = (j : Int) := by rw [IntKind.wrap_i64]; omega
          have J3 : (j : Int) < (L : Int) := by omega
          have J4 : j < L := by omega
          have K1 : (0 : Int) ≤ (k : Int) := by omega
          have K2 : (k : Int) < (lb' : Int) := by omega
          have hset' := Lib.hid hset
          have he'' := Lib.hid he'
          have s2' := Lib.hid s2
          have hsl' := Lib.hid hsl
          have hga' := Lib.hid hga
          have hgb' := Lib.hid hgb
          have hxx := Lib.hid hx'
          clear hset he' s2 hsl s1 s3 he hm hc hed hsb hy hx hd hq ht1 ht2 hp hpB hCC hca hcb hga hgb hj hx' hmema hmemb hL2
          go_wp2_with fail
          refine wp_region_T 22  hst (by kernel_rfl) ?_; clear hst; intro w hst; (try simp only [List.length_cons, List.length_nil, Nat.reduceAdd, Array.replicate_succ, Array.replicate_zero, List.push_toArray, List.nil_append, List.cons_append])
          refine r0 0 ?_; simp only [pz, pn, sz, sc]
          refine r0 1 ?_; simp only [pz, pn, sz, sc]
          refine r0 2 ?_; simp only [pz, pn, sz, sc]
          refine r0 3 ?_; simp only [pz, pn, sz, sc]
          refine r0 4 ?_; simp only [pz, pn, sz, sc]
          refine r0 5 ?_; simp only [pz, pn, sz, sc]
          refine r0 9 ?_; simp only [pz, pn, sz, sc]
          refine r0 10 ?_; simp only [pz, pn, sz, sc]
          refine r0 11 ?_; simp only [pz, pn, sz, sc]
          refine r0 14 ?_; simp only [pz, pn, sz, sc]
          refine r0 15 ?_; simp only [pz, pn, sz, sc]
          refine r0 16 ?_; simp only [pz, pn, sz, sc]
          refine rl 6 rfl ?_ (by first | exact fun w hw => run_opLoadOld hw.keeps tc72 rfl (by rfl) hga'.out hcx | exact fun w hw => run_opLoadOld hw.keeps tc72 rfl (by rfl) hgb'.out hcy | exact ylC tc72); simp only [pz, pn, sz, sc]
          refine r0 7 ?_; simp only [pz, pn, sz, sc]
          refine r0 8 ?_; simp only [pz, pn, sz, sc]
          refine rl 12 rfl ?_ (by first | exact fun w hw => run_opLoadOld hw.keeps tc72 rfl (by rfl) hga'.out hcx | exact fun w hw => run_opLoadOld hw.keeps tc72 rfl (by rfl) hgb'.out hcy | exact ylC tc72); simp only [pz, pn, sz, sc]
          refine r0 13 ?_; simp only [pz, pn, sz, sc]
          refine rl 17 rfl ?_ (by first | exact fun w hw => run_opLoadOld hw.keeps tc72 rfl (by rfl) hga'.out hcx | exact fun w hw => run_opLoadOld hw.keeps tc72 rfl (by rfl) hgb'.out hcy | exact ylC tc72); simp only [pz, pn, sz, sc]
          refine r0 18 ?_; simp only [pz, pn, sz, sc]
          refine r0 19 ?_; simp only [pz, pn, sz, sc]
          refine r0 20 ?_; simp only [pz, pn, sz, sc]
          refine r0 21 ?_; simp only [pz, pn, sz, sc]
          refine rd_ ?_
          go_wp2_with ((first | (refine ks hst tc72 rfl rfl ?_; clear hst; intro w hst; (try rw [hset'.out] at hst))); try simp only [pz, pn, sz, sc])
          refine ⟨⟨k + 1, q, _, by omega, by go_num, rfl, s2'.out, hsl'.out, by rw [← hxx.out]; exact he''.out, hst⟩, ?_⟩
          simp [intOf]; omega
        · have hke : k = lb' := by omega
          subst hke
          rw [Nat.mod_eq_of_lt hbn] at he
          obtain ⟨j, hj⟩ : ∃ j, j = i + k := ⟨_, rfl⟩
          have hz : dg m j = 0 := dg_ge hm (by omega)
          have hset := uw_setC L m j c hc
          have hse := setC_eq m j c
          rw [hz, Nat.zero_mul, Nat.add_zero, hj, he] at hse
          have hfin : a % C ^ i * b + dg a i * b * C ^ i = a % C ^ (i + 1) * b := by
            rw [dg_split, Nat.add_mul, Nat.mul_right_comm]
          rw [hfin] at hse
          rw [hj, hse] at hset
          have W1 : IntKind.u32.wrap (c : Int) = (c : Int) := by rw [u32_wrap, Nat.mod_eq_of_lt hc]
          have J1 : (i : Int) + (k : Int) = (j : Int) := by omega
          have J2 : (0 : Int) ≤ (j : Int) := by omega
          have J3 : (j : Int) < (L : Int) := by omega
          have J4 : j < L := by omega
          have J5 : IntKind.i64.wrap (j : Int) = (j : Int) := by rw [IntKind.wrap_i64]; omega
          rw [← hj] at hset
          have hset' := Lib.hid hset
          have hkl' : ¬ ((k : Int) < (k : Int)) := by omega
          clear hset hse hfin hz he hm hc hj hmema hmemb hL2 hkl hk hbn han
          go_wp2_with ((first | (refine ks hst tc72 rfl rfl ?_; clear hst; intro w hst; (try rw [hset'.out] at hst))); try simp only [pz, pn, sz, sc])
          refine ⟨⟨i + 1, by omega, by go_num, hst⟩, ?_⟩
          simp [intOf]; omega
    · have hie : i = la := by omega
      subst hie
      rw [Nat.mod_eq_of_lt han] at hst
      have hV : a * b < C ^ L := by
        refine Nat.lt_of_lt_of_le ?_ (Nat.pow_le_pow_right C_pos hL1)
        rw [Nat.pow_add]
        exact Nat.mul_lt_mul'' han hbn
      obtain ⟨hat, hbi⟩ := big_of_uw (E := 72) (L := [(b14, .cells (uw L (a * b)) 72 (0, 0))]) hV (by omega) hb14 (by simp)
      have htr := fun w hst => ref01_trim (some ⟨b14, 0, none⟩) L L (a * b) w (hat [] w hst)
      have hi1 : ¬ ((i : Int) < (i : Int)) := by omega
      clear hat hV hlt hi hmema hmemb han hbn
      go_wp2_with ((first | (refine kg gf41 hst (htr) rfl rfl rfl rfl ?_; clear hst; intro w hst)); try simp only [pz, pn, sz, sc])
      refine bp_t rfl rfl (by rfl) (PostB.of hst hbi (fun x h => h))

end Go.Proofs.YtefpoconpeggpaaGreatDoor.Rd

namespace Go.Proofs.YtefpoconpeggpaaGreatDoor.Rd
open Go Go.RowKit
set_option linter.unusedVariables false
set_option linter.unusedSimpArgs false
set_option maxRecDepth 100000

theorem BigIn.slice {s : Nat} {Lg : List (Nat × Obj)} {v : Value} {n : Nat} (h : BigIn s Lg v n) : ∃ a l c, v = .slice a l c := by
  obtain ⟨_, _, _, a, c, h1, _⟩ := h
  exact ⟨_, _, _, h1⟩
theorem BigAt.slice {w : World} {v : Value} {l n : Nat} (h : BigAt w v l n) : ∃ a l c, v = .slice a l c := by
  obtain ⟨_, _, a, c, h1, _⟩ := h
  exact ⟨_, _, _, h1⟩
theorem build_num (a : Option Addr) (l c : Nat) (e : Int) (w : World) : (Instr.build 61 (List.toArray [(1, .slice a l c), (2, .int .i64 e)])).run Tryz.prog w = .ok (.agg #[.bool false, .slice a l c, .int .i64 e]) w := by kernel_rfl
theorem sq_small (m lm : Nat) (h : m < C ^ lm) (hl : lm ≤ 300) : dl (m * m) ≤ 1000 ∧ bl (m * m) ≤ 32000 := by
  have h1 : m * m < C ^ (lm + lm) := by rw [Nat.pow_add]; exact Nat.mul_self_lt_mul_self h
  have key : ∀ k, lm + lm ≤ k → k ≤ 1000 → dl (m * m) ≤ 1000 ∧ bl (m * m) ≤ 32000 := fun k hk hk2 => by
    have h2 : m * m < C ^ k := Nat.lt_of_lt_of_le h1 (Nat.pow_le_pow_right C_pos hk)
    refine ⟨Nat.le_trans (dl_le.2 h2) hk2, ?_⟩
    rw [show C = 2 ^ 32 from rfl, ← Nat.pow_mul] at h2
    have := bl_le.2 h2
    omega
  exact key (lm + lm) (Nat.le_refl _) (by omega)

set_option maxHeartbeats 2000000 in
theorem ref09_Cmp_root (vm vN vD : Value) (lm lN lD m N : Nat) (ng : Bool) (k E : Int) (hlm : lm ≤ 300) (hlN : lN ≤ 300) (hlD : lD ≤ 300) (hk1 : -40000000 ≤ k) (hk2 : k ≤ 40000000) (hE1 : -100000000 ≤ E) (hE2 : E ≤ 100000000) (w0 : World) (hm : BigAt w0 vm lm m) (hN : BigAt w0 vN lN N) (hD : BigAt w0 vD lD 1) :
    GivesAt Tryz.prog 15 #[vm, .int .i64 k, .agg #[.bool ng, .int .i64 2, vN, vD, .int .i64 E]] (.int .i64 (szC (m * m) (2 * k) N E)) w0 := by
  have hst := St.start [] w0
  obtain ⟨s1, s2⟩ := sq_small m lm hm.1 hlm
  have hNb : bl N ≤ 32000 := by
    have h := hN.1
    rw [show C = 2 ^ 32 from rfl, ← Nat.pow_mul] at h
    have := bl_le.2 h
    omega
  have c1 := fun w (h : BigAt w vm lm m) => ref01_Mul vm vm lm lm m m w h h (by omega) (by omega)
  have c2 := fun v w (h : BigAt w v (dl (m * m)) (m * m)) (hd : BigAt w vD lD 1) => ref01_Mul v vD _ lD (m * m) 1 w h hd (by omega) (by omega)
  simp only [Nat.mul_one] at c2
  have c3 := fun v w (h : BigAt w v (dl (m * m)) (m * m)) (hn : BigAt w vN lN N) => ref07_Size v vN _ lN (m * m) N false false (2 * k) E s1 (by omega) (by omega) (by omega) hE1 hE2 s2 hNb w h hn
  have hm' := Lib.hid (fun w (k : Keeps [] w0 w) => hm.keep k)
  have hN' := Lib.hid (fun w (k : Keeps [] w0 w) => hN.keep k)
  have hD' := Lib.hid (fun w (k : Keeps [] w0 w) => hD.keep k)
  obtain ⟨aN, xN, yN, rfl⟩ := hN.slice
  have hW : IntKind.i64.wrap (2 * k) = 2 * k := by rw [IntKind.wrap_i64]; omega
  have hbn := build_num
  clear hm hN hD s1 s2 hNb
  generalize szC (m * m) (2 * k) N E = res at *
  generalize m * m = mm at *
  go_enter Tryz.func15, Tryz.ntmps15
  go_wp2_with ((first | (refine wl_callB (o := ⟨some 16, _, _, _, _, _⟩) gf38 hst (fun w hst => c1 w (hm'.out w hst.keeps)) rfl rfl rfl rfl rfl ?_; clear hst; intro v16 Lg16 w hb16 hst; (try simp only [List.cons_append, List.nil_append, List.append_nil, List.append_assoc] at hst); (try simp only [pz, pn, sz, sc])) | (refine kb 5 hst rfl rfl ?_; clear hst; intro b5 w hb5 hst) | (refine kc hst tc3 rfl ?_)); try simp only [pz, pn, sz, sc])
  refine wp_region_TV 13 [(b5, .cells #[.bool ng, .int .i64 2, .slice aN xN yN, vD, .int .i64 E] 41)] hst (by kernel_rfl) ?_; clear hst; intro w hst; (try simp only [List.length_cons, List.length_nil, Nat.reduceAdd, Array.replicate_succ, Array.replicate_zero, List.push_toArray, List.nil_append, List.cons_append])
  refine r0 0 ?_; simp only [pz, pn, sz, sc]
  refine r0 1 ?_; simp only [pz, pn, sz, sc]
  refine r0 4 ?_; simp only [pz, pn, sz, sc]
  refine r0 6 ?_; simp only [pz, pn, sz, sc]
  refine r0 8 ?_; simp only [pz, pn, sz, sc]
  refine rl 2 rfl ?_ (ylC tc39); simp only [pz, pn, sz, sc]
  refine rl 7 rfl ?_ (ylC tc39); simp only [pz, pn, sz, sc]
  refine rl 9 rfl ?_ (ylC tc3); simp only [pz, pn, sz, sc]
  refine r0 10 ?_ (hy := yB ((fun w => hbn _ _ _ _ w))); simp only [pz, pn, sz, sc]
  refine r1 3 ?_; (refine wl_callB (o := ⟨some 32, _, _, _, _, _⟩) gf38 hst (fun w hst => c2 _ w (hb16.at hst (fun x h => by simp [h])) (hD'.out w hst.keeps)) rfl rfl rfl rfl rfl ?_; clear hst; intro v32 Lg32 w hb32 hst; (try simp only [List.cons_append, List.nil_append, List.append_nil, List.append_assoc] at hst); obtain ⟨a32, x32, y32, rfl⟩ := hb32.slice); (try simp only [pz, pn, sz, sc]); refine re ?_
  refine r0 5 ?_ (hy := yB ((fun w => hbn _ _ _ _ w))); simp only [pz, pn, sz, sc]
  refine r1 11 ?_; (refine kg gf39 hst (fun w hst => c3 _ w (hb32.at hst (fun x h => by simp [h])) (hN'.out w hst.keeps)) rfl rfl rfl rfl ?_; clear hst; intro w hst); (try simp only [pz, pn, sz, sc]); refine re ?_
  refine r0 12 ?_; simp only [pz, pn, sz, sc]
  refine rd_ ?_
  all_goals
    go_wp2_with fail
    refine bp_t rfl rfl (by rfl) ⟨?_, hst.keeps⟩
    rfl

end Go.Proofs.YtefpoconpeggpaaGreatDoor.Rd

namespace Go.Proofs.YtefpoconpeggpaaGreatDoor.Rd
open Go Go.RowKit
set_option linter.unusedVariables false
set_option linter.unusedSimpArgs false
set_option maxRecDepth 100000

/-- Is a word one of a number above 0? -/
def someB (f m : Nat) : Bool := finB f m && decide (wSig f m ≠ 0) && !wNeg f m
theorem clsN_sig (f m : Nat) (hf : m < 2 ^ fB f) : (decide (clsN f m = 4) || decide (clsN f m = 5)) = (finB f m && decide (wSig f m ≠ 0)) := by
  have hp : 0 < 2 ^ (fP f - 1) := Nat.pow_pos (by omega)
  unfold finB
  rw [decide_eq_true hf, Bool.true_and]
  unfold clsN wSig
  by_cases h1 : wField f m = 2 * fE f + 1
  · rw [if_pos h1]
    split
    · simp
    · split <;> simp
  · rw [if_neg h1]
    by_cases h2 : wField f m = 0
    · rw [if_pos h2, if_pos h2]
      by_cases h3 : wFrac f m = 0
      · rw [if_pos h3, h3]; simp
      · rw [if_neg h3]; simp [h3]
    · rw [if_neg h2, if_neg h2]
      simp

theorem kfd {P : Program} {ops : Array Oper} {rest : List Oper} {Q : Exit → Act → World → Prop} {a : Act} {w : World} {o : Oper} {T : TypeId} {x : Operand} {i : Nat} {v v' : Value} (hr : ∀ w, (Instr.field T v i).run P w = .ok v' w) (ho : o.op = .field T x i) (h : wpList P ops Q rest (a.put o.dst v') w) (hx : a.eval x = v := by rfl) (hg : o.guard = none := by rfl) : wpList P ops Q (o :: rest) a w := by
  refine wpList_plain hg fun K hK => ?_
  unfold Oper.wp execOp
  simp only [ho, hx, Sem.run_bind, hr, Sem.run_pure, Result.andThen_ok]
  exact hK _ _ h
theorem nb_field0 (ng : Bool) (e : Int) (n : Nat) (w : World) : (Instr.field 46 (.agg (nbC ng e n)) 0).run Tryz.prog w = .ok (.bool ng) w := by kernel_rfl

theorem ref25_Some_no (f : Int) (m : Nat) (hs : Gives Tryz.prog 32 #[.int .i64 f, Wd m] (.bool false)) : Gives Tryz.prog 11 #[.int .i64 f, Wd m] (.bool false) := by
  intro w0
  have hst := St.start [] w0
  go_enter Tryz.func11, Tryz.ntmps11
  go_wp2_with ((first | (refine kf gf32 hst (hs) rfl rfl rfl rfl ?_; clear hst; intro w hst) | (refine kb 3 hst rfl rfl ?_; clear hst; intro b3 w hb3 hst) | (refine kl hst ta24 rfl ?_)); try simp only [pz, pn, sz, sc])
  refine bp_t rfl rfl (by rfl) ⟨?_, hst.keeps⟩
  rfl

theorem ref25_Some_is (f : Nat) (h1 : 1 ≤ f) (h4 : f ≤ 4) (m : Nat) (hm : m < M2) (hf : m < 2 ^ fB f) (hs : Gives Tryz.prog 32 #[.int .i64 f, Wd m] (.bool true)) : Gives Tryz.prog 11 #[.int .i64 f, Wd m] (.bool (!wNeg f m)) := by
  intro w0
  have hst := St.start [] w0
  have hv := ref07_Value f h1 h4 m hm hf
  have hfd := nb_field0 (wNeg f m) (wExp f m) (wSig f m)
  clear h1 h4 hm hf
  generalize nbC (wNeg f m) (wExp f m) (wSig f m) = cn at *
  generalize wNeg f m = ng at *
  go_enter Tryz.func11, Tryz.ntmps11
  go_wp2_with ((first | (refine kf gf32 hst (hs) rfl rfl rfl rfl ?_; clear hst; intro w hst) | (refine kf gf14 hst (hv) rfl rfl rfl rfl ?_; clear hst; intro w hst) | (refine kfd hfd rfl ?_) | (refine wl_guard (by rfl) ?_) | (refine kb 3 hst rfl rfl ?_; clear hst; intro b3 w hb3 hst) | (refine kl hst ta24 rfl ?_)); try simp only [pz, pn, sz, sc])
  refine bp_t rfl rfl (by rfl) ⟨?_, hst.keeps⟩
  rfl

theorem ref25_Some (f : Nat) (h1 : 1 ≤ f) (h4 : f ≤ 4) (m : Nat) (hm : m < M2) : Gives Tryz.prog 11 #[.int .i64 f, Wd m] (.bool (someB f m)) := by
  by_cases hf : m < 2 ^ fB f
  · have h := ref24_Some_of f m (clsN f m) (clsN_le f m) (ref06_Class f h1 h4 m hm hf)
    rw [clsN_sig f m hf] at h
    unfold someB
    cases hb : (finB f m && decide (wSig f m ≠ 0))
    · rw [hb] at h
      exact ref25_Some_no f m h
    · rw [hb] at h
      exact ref25_Some_is f h1 h4 m hm hf h
  · have h := ref24_Some_of f m 0 (by omega) (ref06_Class_no f h1 h4 m hm hf)
    have e : someB f m = false := by unfold someB finB; rw [decide_eq_false hf]; rfl
    rw [e]
    exact ref25_Some_no f m h
theorem ref25_Some_non (f : Int) (h : f < 1 ∨ 4 < f) (m : Nat) : Gives Tryz.prog 11 #[.int .i64 f, Wd m] (.bool false) := ref25_Some_no f m (ref24_Some_of f m 0 (by omega) (ref06_Class_non f h m))

/-- A value with one number of any length. -/
def RB (g : Value → Value) (n : Nat) (Lg : List (Nat × Obj)) (v : Value) : Prop := ∃ sl, v = g sl ∧ BigIn 0 Lg sl n
theorem BigIn.any {s : Nat} {Lg : List (Nat × Obj)} {v : Value} {n : Nat} (h : BigIn s Lg v n) : BigIn 0 Lg v n := ⟨fun _ _ => Nat.zero_le _, h.2⟩
theorem BigIn.new {s : Nat} {Lg : List (Nat × Obj)} {v : Value} {n : Nat} (h : BigIn s Lg v n) : NewIn s Lg := ⟨h.1, h.2.1⟩
theorem build_num1 (ng : Bool) (a : Option Addr) (l c : Nat) (e : Int) (w : World) : (Instr.build 61 (List.toArray [(0, .bool ng), (1, .slice a l c), (2, .int .i64 e)])).run Tryz.prog w = .ok (.agg #[.bool ng, .slice a l c, .int .i64 e]) w := by kernel_rfl

end Go.Proofs.YtefpoconpeggpaaGreatDoor.Rd

namespace Go.Proofs.YtefpoconpeggpaaGreatDoor.Rd
open Go Go.RowKit
set_option linter.unusedVariables false
set_option linter.unusedSimpArgs false
set_option maxRecDepth 100000

/-- What asking for the first word's number brings: X as the sum. -/
def HA (f : Int) (x y : Nat) (ok : Bool) (X : Array Value) : Prop := ∀ (b8 b11 b15 : Nat) (E8 E11 : TypeId) (w : World), b8 ≠ b15 → b11 ≠ b15 → b8 ≠ b11 → FmtIn w → b15 ≠ 0 →
  w.heap[b8]? = some (.cells #[.int .i64 f] E8) → w.heap[b11]? = some (.cells (wdc y) E11) → w.heap[b15]? = some (.cells (nbC false 0 0) 46) →
  GivesT Tryz.prog 42 #[.int .i64 f, Wd x, .func (.func 43) #[] #[.pointer (some ⟨b8, 0, none⟩), .pointer (some ⟨b11, 0, none⟩), .pointer (some ⟨b15, 0, none⟩)]] (.bool ok) [(b15, .cells (nbC false 0 0) 46)] [(b15, .cells X 46)] w

/-- What of a word is unpacked: a number that isn't 0; or nothing, or one below 0. -/
def UnNo (f : Int) (x : Nat) : Prop := ∃ (ng : Bool) (e : Int) (n : Nat) (ok : Bool), (ok = false ∨ ng = true) ∧ ∀ w, FmtIn w → GivesAt Tryz.prog 69 #[.int .i64 f, Wd x] (.tuple #[.agg (nbC ng e n), .bool ok]) w
theorem unNo_of (f : Int) (x : Nat) (hx : x < M2) (h : ∀ k : Nat, f = k → 1 ≤ k → k ≤ 4 → someB k x = false) : UnNo f x := by
  by_cases hf : 1 ≤ f ∧ f ≤ 4
  · obtain ⟨k, rfl⟩ : ∃ k : Nat, f = k := ⟨f.toNat, by omega⟩
    have hs := h k rfl (by omega) (by omega)
    by_cases hfin : finB k x = true
    · have hlt : x < 2 ^ fB k := by unfold finB at hfin; simp only [Bool.and_eq_true, decide_eq_true_eq] at hfin; exact hfin.1
      by_cases h0 : wSig k x = 0
      · exact ⟨_, _, _, _, .inl rfl, fun w hw => unpack_Unpack_zero k (by omega) (by omega) x hlt hfin h0 w hw⟩
      · have hng : wNeg k x = true := by
          unfold someB at hs
          rw [hfin, decide_eq_true h0] at hs
          simpa using hs
        have hu := fun w hw => unpack_Unpack k (by omega) (by omega) x hlt hfin h0 w hw
        exact ⟨_, _, _, _, .inr hng, hu⟩
    · exact ⟨_, _, _, _, .inl rfl, fun w hw => unpack_Unpack_no k (by omega) (by omega) x hx (by simpa using hfin) w hw⟩
  · exact ⟨_, _, _, _, .inl rfl, fun w _ => (unpack_Unpack_non f (by omega) x).at w⟩

theorem someB_spec {f x : Nat} (h : someB f x = true) : x < 2 ^ fB f ∧ finB f x = true ∧ wSig f x ≠ 0 ∧ wNeg f x = false := by
  unfold someB at h
  simp only [Bool.and_eq_true, Bool.not_eq_true', decide_eq_true_eq] at h
  refine ⟨?_, h.1.1, h.1.2, h.2⟩
  have := h.1.1
  unfold finB at this
  simp only [Bool.and_eq_true, decide_eq_true_eq] at this
  exact this.1
theorem HA_yes (f : Nat) (f1 : 1 ≤ f) (f4 : f ≤ 4) (x y : Nat) (hx : someB f x = true) (hy : someB f y = true) : HA f x y true (hyC f (uExp f x) (uSig f x) (uExp f y) (uSig f y)) := by
  obtain ⟨s1, s2, s3, s4⟩ := someB_spec hx
  obtain ⟨t1, t2, t3, t4⟩ := someB_spec hy
  intro b8 b11 b15 E8 E11 w h1 h2 h3 hF hk q8 q11 q15
  refine root_above1 f f1 f4 x s1 s2 s3 s4 _ gf43 _ b15 _ _ w hF hk q15 (fun w' k e15 => ?_)
  exact root_Hypot_1 _ f f1 f4 x s3 y t1 t2 t3 t4 b8 b11 b15 h1 h2 h3 E8 E11 w' (hF.keep k (by simp only [List.mem_singleton]; exact fun e => hk e.symm)) hk
    (by rw [k.block b8 (lt_of_some q8) (by simpa using h1)]; exact q8) (by rw [k.block b11 (lt_of_some q11) (by simpa using h2)]; exact q11) e15

end Go.Proofs.YtefpoconpeggpaaGreatDoor.Rd
