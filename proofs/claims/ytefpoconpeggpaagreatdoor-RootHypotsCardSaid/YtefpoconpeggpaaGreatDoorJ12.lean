/- sync.Once.Do, one goroutine: not yet done and the lock free; done already. After the guide's worked text of such a walk. -/
import Derived.Test.YtefpoconpeggpaaGreatDoorJ11
import Derived.Test.YtefpoconpeggpaaGreatDoorJ10
import Derived.Test.YtefpoconpeggpaaGreatDoorJ06
import Derived.Defers
import Derived.Laws.Pointers
import Derived.Laws.LoneSync
import Derived.RegionCalls
import Derived.Laws.NewBlocks
namespace Go.Proofs.YtefpoconpeggpaaGreatDoor.Rd
open Go Go.RowKit
set_option linter.unusedVariables false
set_option linter.unusedSimpArgs false
set_option maxRecDepth 100000

set_option maxHeartbeats 8000000 in
theorem ref01_Mul (va vb : Value) (la lb' a b : Nat) (w0 : World) (ha : BigAt w0 va la a) (hb : BigAt w0 vb lb' b) (hla : la ≤ 100000) (hlb : lb' ≤ 100000) : GivesB Tryz.prog 38 #[va, vb] (a * b) w0 := by
  have hst := St.start [] w0
  obtain ⟨han, _, aa, capa, rfl, _, hmema⟩ := ha
  obtain ⟨hbn, _, ab, capb, rfl, _, hmemb⟩ := hb
  obtain ⟨L, hL⟩ : ∃ L, L = la + lb' := ⟨_, rfl⟩
  have hL' : (la : Int) + (lb' : Int) = (L : Int) := by omega
  have hLl : L ≤ 200000 := by omega
  have hL1 : la + lb' ≤ L := by omega
  have hL2 : L ≤ la + lb' := by omega
  clear hL
  have hmade := made_u32 L
  have hmade' := Lib.hid hmade
  clear hmade
  go_enter Tryz.func38, Tryz.ntmps38
  go_wp2_with ((first | (refine wl_make (bytes := 4) (o := ⟨some 14, _, _, _, _, _⟩) hst (show SliceT _ 39 72 by unfold SliceT; kernel_rfl) (show ElemT _ 72 1 (.int .u32 0) from ElemT.of (by kernel_rfl)) (show BytesT _ _ _ by unfold BytesT; kernel_rfl) rfl rfl (by rfl) (by rfl) hmade'.out (by omega) (by omega) ?_; clear hst; intro b14 w hb14 hst; (try simp only [pz, pn, sz, sc]))); try simp only [pz, pn, sz, sc])
  go_loopw [6] (fun vi wr => ∃ (i : Nat), i ≤ la ∧ vi = .int .i64 i ∧ St w0 [] [(b14, .cells (uw L (a % C ^ i * b)) 72 (0, 0))] wr) (fun vi _ => la - (intOf vi).toNat)
  case atStart => exact ⟨0, by omega, rfl, by simpa [Nat.mod_one] using hst⟩
  case round =>
    clear hst
    obtain ⟨i, hi, rfl, hst⟩ := hrel
    by_cases hlt : i < la
    · have hila : (i : Int) < (la : Int) := by omega
      have h0i : (0 : Int) ≤ (i : Int) := by omega
      have hm0 : a % C ^ i * b < C ^ (i + lb') := by
        rw [Nat.pow_add]
        exact Nat.mul_lt_mul'' (Nat.mod_lt _ (Cp_pos i)) hbn
      go_wp2_with fail
      go_loopw [8, 7] (fun vk vc wr => ∃ (k c m : Nat), k ≤ lb' ∧ vk = .int .i64 k ∧ vc = .int .u64 c ∧ c < C ∧ m < C ^ (i + lb') ∧ m + c * C ^ (i + k) = a % C ^ i * b + dg a i * (b % C ^ k) * C ^ i ∧ St w0 [] [(b14, .cells (uw L m) 72 (0, 0))] wr) (fun vk _ _ => lb' - (intOf vk).toNat)
      case atStart => exact ⟨0, 0, _, by omega, rfl, rfl, C_pos, hm0, by simp [Nat.mod_one], hst⟩
      case round =>
        clear hst hm0
        obtain ⟨k, c, m, hk, rfl, rfl, hc, hm, he, hst⟩ := hrel
        by_cases hkl : k < lb'
        · obtain ⟨ga, cura, Ea, rfl, hga, hca⟩ := hmema (by omega)
          obtain ⟨gb, curb, Eb, rfl, hgb, hcb⟩ := hmemb (by omega)
          have hcx := hca i hlt
          have hcy := hcb k hkl
          have hx := dg_lt a i
          have hy := dg_lt b k
          have hsb := dg_split b k
          obtain ⟨j, hj⟩ : ∃ j, j = i + k := ⟨_, rfl⟩
          have hej := uw_get L m j (by omega)
          have hed := dg_lt m j
          obtain ⟨s1, s2, s3⟩ := mul_step m j c (dg a i) (dg b k) hc hx hy
          have hsl := setC_lt m j ((c + dg m j + dg a i * dg b k) % C) (i + lb') hm (Nat.mod_lt _ C_pos) (by omega)
          have hset := uw_setC L m j ((c + dg m j + dg a i * dg b k) % C) (Nat.mod_lt _ C_pos)
          have he' : setC m j ((c + dg m j + dg a i * dg b k) % C) + (c + dg m j + dg a i * dg b k) / C * C ^ (i + (k + 1)) = a % C ^ i * b + dg a i * (b % C ^ (k + 1)) * C ^ i := by
            rw [show i + (k + 1) = j + 1 by omega, s3, hsb, hj, he, Nat.mul_add, Nat.add_mul, Nat.pow_add]
            have e1 : dg a i * (dg b k * C ^ k) * C ^ i = dg a i * dg b k * (C ^ i * C ^ k) := by
              rw [Nat.mul_comm (C ^ i), ← Nat.mul_assoc, ← Nat.mul_assoc]
            omega
          obtain ⟨x, hx'⟩ : ∃ x, x = dg a i := ⟨_, rfl⟩
          rw [← hx'] at hset he' hsl hcx s1 s2 hx
          generalize dg b k = y at *
          generalize dg m j = e at *
          obtain ⟨p, hp⟩ : ∃ p, p = x * y := ⟨_, rfl⟩
          obtain ⟨t1, ht1⟩ : ∃ t1, t1 = c + e := ⟨_, rfl⟩
          obtain ⟨t2, ht2⟩ : ∃ t2, t2 = c + e + x * y := ⟨_, rfl⟩
          rw [← ht2] at hset he' hsl s1 s2
          obtain ⟨d, hd⟩ : ∃ d, d = t2 % C := ⟨_, rfl⟩
          obtain ⟨q, hq⟩ : ∃ q, q = t2 / C := ⟨_, rfl⟩
          rw [← hd] at hset he' hsl
          rw [← hq] at he' s2
          have hCC : C * C = B := by decide
          rw [hCC] at s1
          have hpB : p < B := by omega
          rw [C_val] at hx hy hed hc
          have W1 : IntKind.u64.wrap (x : Int) = (x : Int) := by rw [u64_wrap, Nat.mod_eq_of_lt (by rw [B_val]; omega)]
          have W2 : IntKind.u64.wrap (y : Int) = (y : Int) := by rw [u64_wrap, Nat.mod_eq_of_lt (by rw [B_val]; omega)]
          have W3 : IntKind.u64.wrap (e : Int) = (e : Int) := by rw [u64_wrap, Nat.mod_eq_of_lt (by rw [B_val]; omega)]
          have W4 : IntKind.u64.wrap ((x : Int) * (y : Int)) = (p : Int) := u64_wrap' _ p _ (by rw [hp]; exact (Int.natCast_mul _ _).symm) (Nat.mod_eq_of_lt hpB)
          have W5 : IntKind.u64.wrap ((c : Int) + (e : Int)) = (t1 : Int) := u64_wrap' _ t1 _ (by omega) (Nat.mod_eq_of_lt (by rw [B_val]; omega))
          have W6 : IntKind.u64.wrap ((t1 : Int) + (p : Int)) = (t2 : Int) := u64_wrap' _ t2 _ (by omega) (Nat.mod_eq_of_lt s1)
          have W7 : IntKind.u32.wrap (t2 : Int) = (d : Int) := by rw [u32_wrap, hd]
          have W8 : (t2 : Int) / 4294967296 = (q : Int) := by rw [C_val] at hq; omega
          have J1 : (i : Int) + (k : Int) = (j : Int) := by omega
          have J2 : (0 : Int) ≤ (j : Int) := by omega
          have J5 : IntKind.i64.wrap (j : Int) = (j : Int) := by rw [IntKind.wrap_i64]; omega
          have J3 : (j : Int) < (L : Int) := by omega
          have J4 : j < L := by omega
          have K1 : (0 : Int) ≤ (k : Int) := by omega
          have K2 : (k : Int) < (lb' : Int) := by omega
          have hset' := Lib.hid hset
          have he'' := Lib.hid he'
          have s2' := Lib.hid s2
          have hsl' := Lib.hid hsl
          have hga' := Lib.hid hga
          have hgb' := Lib.hid hgb
          have hxx := Lib.hid hx'
          clear hset he' s2 hsl s1 s3 he hm hc hed hsb hy hx hd hq ht1 ht2 hp hpB hCC hca hcb hga hgb hj hx' hmema hmemb hL2
          go_wp2_with fail
          refine wp_region_T 22  hst (by kernel_rfl) ?_; clear hst; intro w hst; (try simp only [List.length_cons, List.length_nil, Nat.reduceAdd, Array.replicate_succ, Array.replicate_zero, List.push_toArray, List.nil_append, List.cons_append])
          refine r0 0 ?_; simp only [pz, pn, sz, sc]
          refine r0 1 ?_; simp only [pz, pn, sz, sc]
          refine r0 2 ?_; simp only [pz, pn, sz, sc]
          refine r0 3 ?_; simp only [pz, pn, sz, sc]
          refine r0 4 ?_; simp only [pz, pn, sz, sc]
          refine r0 5 ?_; simp only [pz, pn, sz, sc]
          refine r0 9 ?_; simp only [pz, pn, sz, sc]
          refine r0 10 ?_; simp only [pz, pn, sz, sc]
          refine r0 11 ?_; simp only [pz, pn, sz, sc]
          refine r0 14 ?_; simp only [pz, pn, sz, sc]
          refine r0 15 ?_; simp only [pz, pn, sz, sc]
          refine r0 16 ?_; simp only [pz, pn, sz, sc]
          refine rl 6 rfl ?_ (by first | exact fun w hw => run_opLoadOld hw.keeps tc72 rfl (by rfl) hga'.out hcx | exact fun w hw => run_opLoadOld hw.keeps tc72 rfl (by rfl) hgb'.out hcy | exact ylC tc72); simp only [pz, pn, sz, sc]
          refine r0 7 ?_; simp only [pz, pn, sz, sc]
          refine r0 8 ?_; simp only [pz, pn, sz, sc]
          refine rl 12 rfl ?_ (by first | exact fun w hw => run_opLoadOld hw.keeps tc72 rfl (by rfl) hga'.out hcx | exact fun w hw => run_opLoadOld hw.keeps tc72 rfl (by rfl) hgb'.out hcy | exact ylC tc72); simp only [pz, pn, sz, sc]
          refine r0 13 ?_; simp only [pz, pn, sz, sc]
          refine rl 17 rfl ?_ (by first | exact fun w hw => run_opLoadOld hw.keeps tc72 rfl (by rfl) hga'.out hcx | exact fun w hw => run_opLoadOld hw.keeps tc72 rfl (by rfl) hgb'.out hcy | exact ylC tc72); simp only [pz, pn, sz, sc]
          refine r0 18 ?_; simp only [pz, pn, sz, sc]
          refine r0 19 ?_; simp only [pz, pn, sz, sc]
          refine r0 20 ?_; simp only [pz, pn, sz, sc]
          refine r0 21 ?_; simp only [pz, pn, sz, sc]
          refine rd_ ?_
          go_wp2_with ((first | (refine ks hst tc72 rfl rfl ?_; clear hst; intro w hst; (try rw [hset'.out] at hst))); try simp only [pz, pn, sz, sc])
          refine ⟨⟨k + 1, q, _, by omega, by go_num, rfl, s2'.out, hsl'.out, by rw [← hxx.out]; exact he''.out, hst⟩, ?_⟩
          simp [intOf]; omega
        · have hke : k = lb' := by omega
          subst hke
          rw [Nat.mod_eq_of_lt hbn] at he
          obtain ⟨j, hj⟩ : ∃ j, j = i + k := ⟨_, rfl⟩
          have hz : dg m j = 0 := dg_ge hm (by omega)
          have hset := uw_setC L m j c hc
          have hse := setC_eq m j c
          rw [hz, Nat.zero_mul, Nat.add_zero, hj, he] at hse
          have hfin : a % C ^ i * b + dg a i * b * C ^ i = a % C ^ (i + 1) * b := by
            rw [dg_split, Nat.add_mul, Nat.mul_right_comm]
          rw [hfin] at hse
          rw [hj, hse] at hset
          have W1 : IntKind.u32.wrap (c : Int) = (c : Int) := by rw [u32_wrap, Nat.mod_eq_of_lt hc]
          have J1 : (i : Int) + (k : Int) = (j : Int) := by omega
          have J2 : (0 : Int) ≤ (j : Int) := by omega
          have J3 : (j : Int) < (L : Int) := by omega
          have J4 : j < L := by omega
          have J5 : IntKind.i64.wrap (j : Int) = (j : Int) := by rw [IntKind.wrap_i64]; omega
          rw [← hj] at hset
          have hset' := Lib.hid hset
          have hkl' : ¬ ((k : Int) < (k : Int)) := by omega
          clear hset hse hfin hz he hm hc hj hmema hmemb hL2 hkl hk hbn han
          go_wp2_with ((first | (refine ks hst tc72 rfl rfl ?_; clear hst; intro w hst; (try rw [hset'.out] at hst))); try simp only [pz, pn, sz, sc])
          refine ⟨⟨i + 1, by omega, by go_num, hst⟩, ?_⟩
          simp [intOf]; omega
    · have hie : i = la := by omega
      subst hie
      rw [Nat.mod_eq_of_lt han] at hst
      have hV : a * b < C ^ L := by
        refine Nat.lt_of_lt_of_le ?_ (Nat.pow_le_pow_right C_pos hL1)
        rw [Nat.pow_add]
        exact Nat.mul_lt_mul'' han hbn
      obtain ⟨hat, hbi⟩ := big_of_uw (E := 72) (L := [(b14, .cells (uw L (a * b)) 72 (0, 0))]) hV (by omega) hb14 (by simp)
      have htr := fun w hst => ref01_trim (some ⟨b14, 0, none⟩) L L (a * b) w (hat [] w hst)
      have hi1 : ¬ ((i : Int) < (i : Int)) := by omega
      clear hat hV hlt hi hmema hmemb han hbn
      go_wp2_with ((first | (refine kg gf41 hst (htr) rfl rfl rfl rfl ?_; clear hst; intro w hst)); try simp only [pz, pn, sz, sc])
      refine bp_t rfl rfl (by rfl) (PostB.of hst hbi (fun x h => h))

end Go.Proofs.YtefpoconpeggpaaGreatDoor.Rd

namespace Go.Proofs.YtefpoconpeggpaaGreatDoor.Rd
open Go Go.RowKit
set_option linter.unusedVariables false
set_option linter.unusedSimpArgs false
set_option maxRecDepth 100000

theorem BigIn.slice {s : Nat} {Lg : List (Nat × Obj)} {v : Value} {n : Nat} (h : BigIn s Lg v n) : ∃ a l c, v = .slice a l c := by
  obtain ⟨_, _, _, a, c, h1, _⟩ := h
  exact ⟨_, _, _, h1⟩
theorem BigAt.slice {w : World} {v : Value} {l n : Nat} (h : BigAt w v l n) : ∃ a l c, v = .slice a l c := by
  obtain ⟨_, _, a, c, h1, _⟩ := h
  exact ⟨_, _, _, h1⟩
theorem build_num (a : Option Addr) (l c : Nat) (e : Int) (w : World) : (Instr.build 61 (List.toArray [(1, .slice a l c), (2, .int .i64 e)])).run Tryz.prog w = .ok (.agg #[.bool false, .slice a l c, .int .i64 e]) w := by kernel_rfl
theorem sq_small (m lm : Nat) (h : m < C ^ lm) (hl : lm ≤ 300) : dl (m * m) ≤ 1000 ∧ bl (m * m) ≤ 32000 := by
  have h1 : m * m < C ^ (lm + lm) := by rw [Nat.pow_add]; exact Nat.mul_self_lt_mul_self h
  have key : ∀ k, lm + lm ≤ k → k ≤ 1000 → dl (m * m) ≤ 1000 ∧ bl (m * m) ≤ 32000 := fun k hk hk2 => by
    have h2 : m * m < C ^ k := Nat.lt_of_lt_of_le h1 (Nat.pow_le_pow_right C_pos hk)
    refine ⟨Nat.le_trans (dl_le.2 h2) hk2, ?_⟩
    rw [show C = 2 ^ 32 from rfl, ← Nat.pow_mul] at h2
    have := bl_le.2 h2
    omega
  exact key (lm + lm) (Nat.le_refl _) (by omega)

set_option maxHeartbeats 2000000 in
theorem ref09_Cmp_root (vm vN vD : Value) (lm lN lD m N : Nat) (ng : Bool) (k E : Int) (hlm : lm ≤ 300) (hlN : lN ≤ 300) (hlD : lD ≤ 300) (hk1 : -40000000 ≤ k) (hk2 : k ≤ 40000000) (hE1 : -100000000 ≤ E) (hE2 : E ≤ 100000000) (w0 : World) (hm : BigAt w0 vm lm m) (hN : BigAt w0 vN lN N) (hD : BigAt w0 vD lD 1) :
    GivesAt Tryz.prog 15 #[vm, .int .i64 k, .agg #[.bool ng, .int .i64 2, vN, vD, .int .i64 E]] (.int .i64 (szC (m * m) (2 * k) N E)) w0 := by
  have hst := St.start [] w0
  obtain ⟨s1, s2⟩ := sq_small m lm hm.1 hlm
  have hNb : bl N ≤ 32000 := by
    have h := hN.1
    rw [show C = 2 ^ 32 from rfl, ← Nat.pow_mul] at h
    have := bl_le.2 h
    omega
  have c1 := fun w (h : BigAt w vm lm m) => ref01_Mul vm vm lm lm m m w h h (by omega) (by omega)
  have c2 := fun v w (h : BigAt w v (dl (m * m)) (m * m)) (hd : BigAt w vD lD 1) => ref01_Mul v vD _ lD (m * m) 1 w h hd (by omega) (by omega)
  simp only [Nat.mul_one] at c2
  have c3 := fun v w (h : BigAt w v (dl (m * m)) (m * m)) (hn : BigAt w vN lN N) => ref07_Size v vN _ lN (m * m) N false false (2 * k) E s1 (by omega) (by omega) (by omega) hE1 hE2 s2 hNb w h hn
  have hm' := Lib.hid (fun w (k : Keeps [] w0 w) => hm.keep k)
  have hN' := Lib.hid (fun w (k : Keeps [] w0 w) => hN.keep k)
  have hD' := Lib.hid (fun w (k : Keeps [] w0 w) => hD.keep k)
  obtain ⟨aN, xN, yN, rfl⟩ := hN.slice
  have hW : IntKind.i64.wrap (2 * k) = 2 * k := by rw [IntKind.wrap_i64]; omega
  have hbn := build_num
  clear hm hN hD s1 s2 hNb
  generalize szC (m * m) (2 * k) N E = res at *
  generalize m * m = mm at *
  go_enter Tryz.func15, Tryz.ntmps15
  go_wp2_with ((first | (refine wl_callB (o := ⟨some 16, _, _, _, _, _⟩) gf38 hst (fun w hst => c1 w (hm'.out w hst.keeps)) rfl rfl rfl rfl rfl ?_; clear hst; intro v16 Lg16 w hb16 hst; (try simp only [List.cons_append, List.nil_append, List.append_nil, List.append_assoc] at hst); (try simp only [pz, pn, sz, sc])) | (refine kb 5 hst rfl rfl ?_; clear hst; intro b5 w hb5 hst) | (refine kc hst tc3 rfl ?_)); try simp only [pz, pn, sz, sc])
  refine wp_region_TV 13 [(b5, .cells #[.bool ng, .int .i64 2, .slice aN xN yN, vD, .int .i64 E] 41)] hst (by kernel_rfl) ?_; clear hst; intro w hst; (try simp only [List.length_cons, List.length_nil, Nat.reduceAdd, Array.replicate_succ, Array.replicate_zero, List.push_toArray, List.nil_append, List.cons_append])
  refine r0 0 ?_; simp only [pz, pn, sz, sc]
  refine r0 1 ?_; simp only [pz, pn, sz, sc]
  refine r0 4 ?_; simp only [pz, pn, sz, sc]
  refine r0 6 ?_; simp only [pz, pn, sz, sc]
  refine r0 8 ?_; simp only [pz, pn, sz, sc]
  refine rl 2 rfl ?_ (ylC tc39); simp only [pz, pn, sz, sc]
  refine rl 7 rfl ?_ (ylC tc39); simp only [pz, pn, sz, sc]
  refine rl 9 rfl ?_ (ylC tc3); simp only [pz, pn, sz, sc]
  refine r0 10 ?_ (hy := yB ((fun w => hbn _ _ _ _ w))); simp only [pz, pn, sz, sc]
  refine r1 3 ?_; (refine wl_callB (o := ⟨some 32, _, _, _, _, _⟩) gf38 hst (fun w hst => c2 _ w (hb16.at hst (fun x h => by simp [h])) (hD'.out w hst.keeps)) rfl rfl rfl rfl rfl ?_; clear hst; intro v32 Lg32 w hb32 hst; (try simp only [List.cons_append, List.nil_append, List.append_nil, List.append_assoc] at hst); obtain ⟨a32, x32, y32, rfl⟩ := hb32.slice); (try simp only [pz, pn, sz, sc]); refine re ?_
  refine r0 5 ?_ (hy := yB ((fun w => hbn _ _ _ _ w))); simp only [pz, pn, sz, sc]
  refine r1 11 ?_; (refine kg gf39 hst (fun w hst => c3 _ w (hb32.at hst (fun x h => by simp [h])) (hN'.out w hst.keeps)) rfl rfl rfl rfl ?_; clear hst; intro w hst); (try simp only [pz, pn, sz, sc]); refine re ?_
  refine r0 12 ?_; simp only [pz, pn, sz, sc]
  refine rd_ ?_
  all_goals
    go_wp2_with fail
    refine bp_t rfl rfl (by rfl) ⟨?_, hst.keeps⟩
    rfl

end Go.Proofs.YtefpoconpeggpaaGreatDoor.Rd

namespace Go.Proofs.YtefpoconpeggpaaGreatDoor.Rd
open Go Go.RowKit
set_option linter.unusedVariables false
set_option linter.unusedSimpArgs false
set_option maxRecDepth 100000

theorem wExp_in (f m : Nat) : -100000 ≤ wExp f m ∧ wExp f m ≤ 100000 := by
  have := wField_lt f m
  have := fE_in f
  have := fP_in f
  unfold wExp
  omega
theorem unpack_Unpack (f : Nat) (h1 : 1 ≤ f) (h4 : f ≤ 4) (m : Nat) (hm : m < 2 ^ fB f) (hfin : finB f m = true) (h0 : wSig f m ≠ 0) (w0 : World) (hF : FmtIn w0) :
    GivesAt Tryz.prog 69 #[.int .i64 f, Wd m] (.tuple #[.agg (nbC (wNeg f m) (wExp f m - (fP f - bl (wSig f m) : Nat)) (wSig f m * 2 ^ (fP f - bl (wSig f m)))), .bool true]) w0 := by
  have hst := St.start [] w0
  have hk := Lib.hid (fun w (k : Keeps [] w0 w) => hF.keep k (by simp))
  have h := fun w hw => unpack_made f h1 h4 m hm hfin 102 gf102 _ true (nbC_size _ _ _) (nbC_one _ _ _) w hw (fun w' _ => (unpack_Unpack_1 f (wNeg f m) (wExp f m) (wSig f m) (wExp_in f m).1 (wExp_in f m).2 h0 (wSig_lt f m)).at w')
  have y1 := nbC_size (wNeg f m) (wExp f m - (fP f - bl (wSig f m) : Nat)) (wSig f m * 2 ^ (fP f - bl (wSig f m)))
  have y2 := nbC_one (wNeg f m) (wExp f m - (fP f - bl (wSig f m) : Nat)) (wSig f m * 2 ^ (fP f - bl (wSig f m)))
  clear hF hfin hm h0
  generalize nbC (wNeg f m) (wExp f m - (fP f - bl (wSig f m) : Nat)) (wSig f m * 2 ^ (fP f - bl (wSig f m))) = r at *
  go_enter Tryz.func69, Tryz.ntmps69
  go_wp2_with ((first | (refine kg gf101 hst (fun w hst => h w (hk.out w hst.keeps)) rfl rfl rfl rfl ?_; clear hst; intro w hst) | (refine kb 3 hst rfl rfl ?_; clear hst; intro b3 w hb3 hst) | (refine ka 4 hst tz46 rfl rfl ?_; clear hst; intro b4 w hb4 hst) | (refine kl hst ta24 rfl ?_) | (refine kt hst ta46 rfl rfl ?_; clear hst; intro w hst)); try simp only [pz, pn, sz, sc])
  refine bp_ct rfl rfl (la hst ta46) (by rfl) ⟨?_, hst.keeps⟩
  rfl

theorem unpack_Unpack_zero (f : Nat) (h1 : 1 ≤ f) (h4 : f ≤ 4) (m : Nat) (hm : m < 2 ^ fB f) (hfin : finB f m = true) (h0 : wSig f m = 0) (w0 : World) (hF : FmtIn w0) :
    GivesAt Tryz.prog 69 #[.int .i64 f, Wd m] (.tuple #[.agg (nbC false 0 0), .bool false]) w0 := by
  have hst := St.start [] w0
  have hk := Lib.hid (fun w (k : Keeps [] w0 w) => hF.keep k (by simp))
  have h := fun w hw => unpack_made f h1 h4 m hm hfin 102 gf102 _ false (nbC_size _ _ _) (nbC_one _ _ _) w hw (fun w' _ => by rw [h0]; exact (unpack_Unpack_0 f (wNeg f m) (wExp f m)).at w')
  have y1 := nbC_size false 0 0
  have y2 := nbC_one false 0 0
  clear hF hfin hm h0
  generalize nbC false 0 0 = r at *
  go_enter Tryz.func69, Tryz.ntmps69
  go_wp2_with ((first | (refine kg gf101 hst (fun w hst => h w (hk.out w hst.keeps)) rfl rfl rfl rfl ?_; clear hst; intro w hst) | (refine kb 3 hst rfl rfl ?_; clear hst; intro b3 w hb3 hst) | (refine ka 4 hst tz46 rfl rfl ?_; clear hst; intro b4 w hb4 hst) | (refine kl hst ta24 rfl ?_) | (refine kt hst ta46 rfl rfl ?_; clear hst; intro w hst)); try simp only [pz, pn, sz, sc])
  refine bp_ct rfl rfl (la hst ta46) (by rfl) ⟨?_, hst.keeps⟩
  rfl

theorem unpack_Unpack_no (f : Nat) (h1 : 1 ≤ f) (h4 : f ≤ 4) (m : Nat) (hm2 : m < M2) (hfin : finB f m = false) (w0 : World) (hF : FmtIn w0) :
    GivesAt Tryz.prog 69 #[.int .i64 f, Wd m] (.tuple #[.agg (nbC false 0 0), .bool false]) w0 := by
  have hst := St.start [] w0
  have hk := Lib.hid (fun w (k : Keeps [] w0 w) => hF.keep k (by simp))
  have h := fun g w hw => unpack_made_no f h1 h4 m hm2 hfin g w hw
  have y1 := nbC_size false 0 0
  have y2 := nbC_one false 0 0
  clear hF hfin
  generalize nbC false 0 0 = r at *
  go_enter Tryz.func69, Tryz.ntmps69
  go_wp2_with ((first | (refine kg gf101 hst (fun w hst => h _ w (hk.out w hst.keeps)) rfl rfl rfl rfl ?_; clear hst; intro w hst) | (refine kb 3 hst rfl rfl ?_; clear hst; intro b3 w hb3 hst) | (refine ka 4 hst tz46 rfl rfl ?_; clear hst; intro b4 w hb4 hst) | (refine kl hst ta24 rfl ?_) | (refine kt hst ta46 rfl rfl ?_; clear hst; intro w hst)); try simp only [pz, pn, sz, sc])
  refine bp_ct rfl rfl (la hst ta46) (by rfl) ⟨?_, hst.keeps⟩
  rfl

theorem unpack_Unpack_non (f : Int) (h : f < 1 ∨ 4 < f) (m : Nat) : Gives Tryz.prog 69 #[.int .i64 f, Wd m] (.tuple #[.agg (nbC false 0 0), .bool false]) := by
  intro w0
  have hst := St.start [] w0
  have h := fun g => unpack_made_non f h m g
  have y1 := nbC_size false 0 0
  have y2 := nbC_one false 0 0
  generalize nbC false 0 0 = r at *
  go_enter Tryz.func69, Tryz.ntmps69
  go_wp2_with ((first | (refine kf gf101 hst (h _) rfl rfl rfl rfl ?_; clear hst; intro w hst) | (refine kb 3 hst rfl rfl ?_; clear hst; intro b3 w hb3 hst) | (refine ka 4 hst tz46 rfl rfl ?_; clear hst; intro b4 w hb4 hst) | (refine kl hst ta24 rfl ?_) | (refine kt hst ta46 rfl rfl ?_; clear hst; intro w hst)); try simp only [pz, pn, sz, sc])
  refine bp_ct rfl rfl (la hst ta46) (by rfl) ⟨?_, hst.keeps⟩
  rfl

section
variable (b5 b6 b7 : Nat) (w0 : World)
theorem grows_1 (r : Nat) (odd : Bool) (hr : r ≤ 3) (hne : b6 ≠ b7) (h7 : w0.heap[b7]? = some (.cells #[.int .i64 r] 3)) (h6 : w0.heap[b6]? = some (.cells #[.bool odd] 4)) :
    GivesAt Tryz.prog 140 #[.pointer (some ⟨b7, 0, none⟩), .pointer (some ⟨b6, 0, none⟩)] (.bool (decide (r = 3) || (decide (r = 2) && odd))) w0 := by
  have hst : St w0 [] [(b6, .cells #[.bool odd] 4), (b7, .cells #[.int .i64 r] 3)] w0 := ((St.start [] w0).add h7 (by simp)).add h6 (by simpa using hne)
  clear h7 h6
  by_cases e3 : r = 3
  · subst e3
    rw [show ((3 : Nat) : Int) = 3 from rfl] at hst
    go_enter Tryz.func140, Tryz.ntmps140
    go_wp2_with ((first | (refine kc hst tc3 rfl ?_)); try simp only [pz, pn, sz, sc])
    refine bp_t rfl rfl (by rfl) ⟨?_, hst.keeps⟩
    rfl
  · by_cases e2 : r = 2
    · subst e2
      rw [show ((2 : Nat) : Int) = 2 from rfl] at hst
      go_enter Tryz.func140, Tryz.ntmps140
      go_wp2_with ((first | (refine wl_guard (by rfl) ?_) | (refine kc hst tc3 rfl ?_) | (refine kc hst tc4 rfl ?_)); try simp only [pz, pn, sz, sc])
      refine bp_t rfl rfl (by rfl) ⟨?_, hst.keeps⟩
      simp
    · have q3 : ((r : Int) == 3) = false := by simp; omega
      have q2 : ((r : Int) == 2) = false := by simp; omega
      have d3 : decide (r = 3) = false := by simpa using e3
      have d2 : decide (r = 2) = false := by simpa using e2
      rw [d3, d2]
      clear e2 e3 d3 d2
      go_enter Tryz.func140, Tryz.ntmps140
      go_wp2_with ((first | (refine wl_guard (by rfl) ?_) | (refine kc hst tc3 rfl ?_)); try simp only [pz, pn, sz, sc])
      refine bp_t rfl rfl (by rfl) ⟨?_, hst.keeps⟩
      rfl

theorem grows_2 (r : Nat) (hr : r ≠ 0) (h7 : w0.heap[b7]? = some (.cells #[.int .i64 r] 3)) : GivesAt Tryz.prog 141 #[.pointer (some ⟨b7, 0, none⟩)] (.bool (decide (2 ≤ r))) w0 := by
  have hst := (St.start [] w0).add h7 (by simp)
  clear h7
  by_cases e1 : r = 1
  · subst e1
    rw [show ((1 : Nat) : Int) = 1 from rfl] at hst
    go_enter Tryz.func141, Tryz.ntmps141
    go_wp2_with ((first | (refine kc hst tc3 rfl ?_)); try simp only [pz, pn, sz, sc])
    refine bp_t rfl rfl (by rfl) ⟨?_, hst.keeps⟩
    rfl
  · have q1 : ((r : Int) == 1) = false := by simp; omega
    have q2 : ((r : Int) != 1) = true := by simp; omega
    have d : decide (2 ≤ r) = true := decide_eq_true (by omega)
    rw [d]
    clear d e1 hr
    go_enter Tryz.func141, Tryz.ntmps141
    go_wp2_with ((first | (refine kc hst tc3 rfl ?_)); try simp only [pz, pn, sz, sc])
    refine bp_t rfl rfl (by rfl) ⟨?_, hst.keeps⟩
    rfl

theorem grows_3 : GivesAt Tryz.prog 142 #[] (.bool false) w0 := by
  have hst := St.start [] w0
  go_enter Tryz.func142, Tryz.ntmps142
  go_wp2_with fail
  refine bp_t rfl rfl (by rfl) ⟨?_, hst.keeps⟩
  rfl

theorem grows_4 (ng : Bool) (h5 : w0.heap[b5]? = some (.cells #[.bool ng] 4)) : GivesAt Tryz.prog 143 #[.pointer (some ⟨b5, 0, none⟩)] (.bool (!ng)) w0 := by
  have hst := (St.start [] w0).add h5 (by simp)
  clear h5
  go_enter Tryz.func143, Tryz.ntmps143
  go_wp2_with ((first | (refine kc hst tc4 rfl ?_)); try simp only [pz, pn, sz, sc])
  refine bp_t rfl rfl (by rfl) ⟨?_, hst.keeps⟩
  rfl

theorem grows_5 (ng : Bool) (h5 : w0.heap[b5]? = some (.cells #[.bool ng] 4)) : GivesAt Tryz.prog 144 #[.pointer (some ⟨b5, 0, none⟩)] (.bool ng) w0 := by
  have hst := (St.start [] w0).add h5 (by simp)
  clear h5
  go_enter Tryz.func144, Tryz.ntmps144
  go_wp2_with ((first | (refine kc hst tc4 rfl ?_)); try simp only [pz, pn, sz, sc])
  refine bp_t rfl rfl (by rfl) ⟨?_, hst.keeps⟩
  rfl
end

/-- The cells of the functions of the modes. -/
def dsC (b5 b6 b7 : Nat) : Array Value := #[.nilFunc, .func (.func 140) #[] #[.pointer (some ⟨b7, 0, none⟩), .pointer (some ⟨b6, 0, none⟩)], .func (.func 141) #[] #[.pointer (some ⟨b7, 0, none⟩)], .func (.func 142) #[] #[], .func (.func 143) #[] #[.pointer (some ⟨b5, 0, none⟩)], .func (.func 144) #[] #[.pointer (some ⟨b5, 0, none⟩)]]
theorem build_does (b5 b6 b7 : Nat) (w : World) : (Instr.build 217 (List.toArray [(1, .func (.func 140) #[] #[.pointer (some ⟨b7, 0, none⟩), .pointer (some ⟨b6, 0, none⟩)]), (2, .func (.func 141) #[] #[.pointer (some ⟨b7, 0, none⟩)]), (3, .func (.func 142) #[] #[]), (4, .func (.func 143) #[] #[.pointer (some ⟨b5, 0, none⟩)]), (5, .func (.func 144) #[] #[.pointer (some ⟨b5, 0, none⟩)])])).run Tryz.prog w = .ok (.agg (dsC b5 b6 b7)) w := by kernel_rfl

set_option maxHeartbeats 4000000 in
theorem mode_Grows (m : Nat) (h1 : 1 ≤ m) (h5 : m ≤ 5) (ng odd : Bool) (r : Nat) (hr : r ≤ 3) : Gives Tryz.prog 118 #[.int .i64 m, .bool ng, .bool odd, .int .i64 r] (.bool (growsB m ng odd r)) := by
  intro w0
  have hst := St.start [] w0
  have his := mode_Is_yes m (by omega) (by omega)
  by_cases h0 : r = 0
  · subst h0
    rw [show growsB m ng odd 0 = false from if_pos rfl, show ((0 : Nat) : Int) = 0 from rfl]
    clear h1 h5
    go_enter Tryz.func118, Tryz.ntmps118
    go_wp2_with ((first | (refine kf gf62 hst (his) rfl rfl rfl rfl ?_; clear hst; intro w hst) | (refine wl_guard (by rfl) ?_) | (refine kb 5 hst rfl rfl ?_; clear hst; intro b5 w hb5 hst) | (refine kb 6 hst rfl rfl ?_; clear hst; intro b6 w hb6 hst) | (refine kb 7 hst rfl rfl ?_; clear hst; intro b7 w hb7 hst) | (refine kc hst tc3 rfl ?_)); try simp only [pz, pn, sz, sc])
    refine bp_t rfl rfl (by rfl) ⟨?_, hst.keeps⟩
    rfl
  · have r1 : ¬ (r : Int) < 1 := by omega
    have r3 : ¬ (3 : Int) < (r : Int) := by omega
    have hb := build_does
    have k1 := fun b6 b7 (hne : b6 ≠ b7) w q7 q6 => grows_1 b6 b7 w r odd hr hne q7 q6
    have k2 := fun b7 w q7 => grows_2 b7 w r h0 q7
    have k3 := fun w => grows_3 w
    have k4 := fun b5 w q5 => grows_4 b5 w ng q5
    have k5 := fun b5 w q5 => grows_5 b5 w ng q5
    have e : growsB m ng odd r = if m = 1 then decide (r = 3) || (decide (r = 2) && odd) else if m = 2 then decide (2 ≤ r) else if m = 4 then !ng else if m = 5 then ng else false := by unfold growsB; rw [if_neg h0]
    rw [e]
    clear e h0 hr
    generalize (decide (r = 3) || (decide (r = 2) && odd)) = x1 at *
    generalize decide (2 ≤ r) = x2 at *
    have f1 := gf140
    have f2 := gf141
    have f3 := gf142
    have f4 := gf143
    have f5 := gf144
    unfold dsC at hb
    obtain rfl | rfl | rfl | rfl | rfl : m = 1 ∨ m = 2 ∨ m = 3 ∨ m = 4 ∨ m = 5 := by omega
    · rw [if_pos rfl, show ((1 : Nat) : Int) = 1 from rfl] at *
      go_enter Tryz.func118, Tryz.ntmps118
      go_wp2_with ((first | (refine kf gf62 hst (his) rfl rfl rfl rfl ?_; clear hst; intro w hst) | (refine kB (hb _ _ _) rfl ?_) | (refine kg f1 hst (fun w hst => k1 b6 b7 (by have q := hst.nodup; simp only [List.map_cons, List.map_nil, List.nodup_cons, List.mem_cons, List.not_mem_nil, or_false, not_or] at q; omega) w (hst.own _ _ (by repeat (first | exact List.Mem.head _ | refine List.Mem.tail _ ?_))) (hst.own _ _ (by repeat (first | exact List.Mem.head _ | refine List.Mem.tail _ ?_)))) rfl rfl rfl rfl ?_; clear hst; intro w hst) | (refine wl_guard (by rfl) ?_) | (refine kb 5 hst rfl rfl ?_; clear hst; intro b5 w hb5 hst) | (refine kb 6 hst rfl rfl ?_; clear hst; intro b6 w hb6 hst) | (refine kb 7 hst rfl rfl ?_; clear hst; intro b7 w hb7 hst) | (refine kc hst tc3 rfl ?_) | (refine ka 9 hst tz217 rfl rfl ?_; clear hst; intro b9 w hb9 hst) | (refine kt hst ta217 rfl rfl ?_; clear hst; intro w hst) | (refine kc hst tc32 rfl ?_)); try simp only [pz, pn, sz, sc])
      refine bp_t rfl rfl (by rfl) ⟨?_, hst.keeps⟩
      rfl
    · rw [if_neg (by decide), if_pos rfl, show ((2 : Nat) : Int) = 2 from rfl] at *
      go_enter Tryz.func118, Tryz.ntmps118
      go_wp2_with ((first | (refine kf gf62 hst (his) rfl rfl rfl rfl ?_; clear hst; intro w hst) | (refine kB (hb _ _ _) rfl ?_) | (refine kg f2 hst (fun w hst => k2 b7 w (hst.own _ _ (by repeat (first | exact List.Mem.head _ | refine List.Mem.tail _ ?_)))) rfl rfl rfl rfl ?_; clear hst; intro w hst) | (refine wl_guard (by rfl) ?_) | (refine kb 5 hst rfl rfl ?_; clear hst; intro b5 w hb5 hst) | (refine kb 6 hst rfl rfl ?_; clear hst; intro b6 w hb6 hst) | (refine kb 7 hst rfl rfl ?_; clear hst; intro b7 w hb7 hst) | (refine kc hst tc3 rfl ?_) | (refine ka 9 hst tz217 rfl rfl ?_; clear hst; intro b9 w hb9 hst) | (refine kt hst ta217 rfl rfl ?_; clear hst; intro w hst) | (refine kc hst tc32 rfl ?_)); try simp only [pz, pn, sz, sc])
      refine bp_t rfl rfl (by rfl) ⟨?_, hst.keeps⟩
      rfl
    · rw [if_neg (by decide), if_neg (by decide), if_neg (by decide), if_neg (by decide), show ((3 : Nat) : Int) = 3 from rfl] at *
      go_enter Tryz.func118, Tryz.ntmps118
      go_wp2_with ((first | (refine kf gf62 hst (his) rfl rfl rfl rfl ?_; clear hst; intro w hst) | (refine kB (hb _ _ _) rfl ?_) | (refine kg f3 hst (fun w hst => k3 w) rfl rfl rfl rfl ?_; clear hst; intro w hst) | (refine wl_guard (by rfl) ?_) | (refine kb 5 hst rfl rfl ?_; clear hst; intro b5 w hb5 hst) | (refine kb 6 hst rfl rfl ?_; clear hst; intro b6 w hb6 hst) | (refine kb 7 hst rfl rfl ?_; clear hst; intro b7 w hb7 hst) | (refine kc hst tc3 rfl ?_) | (refine ka 9 hst tz217 rfl rfl ?_; clear hst; intro b9 w hb9 hst) | (refine kt hst ta217 rfl rfl ?_; clear hst; intro w hst) | (refine kc hst tc32 rfl ?_)); try simp only [pz, pn, sz, sc])
      refine bp_t rfl rfl (by rfl) ⟨?_, hst.keeps⟩
      rfl
    · rw [if_neg (by decide), if_neg (by decide), if_pos rfl, show ((4 : Nat) : Int) = 4 from rfl] at *
      go_enter Tryz.func118, Tryz.ntmps118
      go_wp2_with ((first | (refine kf gf62 hst (his) rfl rfl rfl rfl ?_; clear hst; intro w hst) | (refine kB (hb _ _ _) rfl ?_) | (refine kg f4 hst (fun w hst => k4 b5 w (hst.own _ _ (by repeat (first | exact List.Mem.head _ | refine List.Mem.tail _ ?_)))) rfl rfl rfl rfl ?_; clear hst; intro w hst) | (refine wl_guard (by rfl) ?_) | (refine kb 5 hst rfl rfl ?_; clear hst; intro b5 w hb5 hst) | (refine kb 6 hst rfl rfl ?_; clear hst; intro b6 w hb6 hst) | (refine kb 7 hst rfl rfl ?_; clear hst; intro b7 w hb7 hst) | (refine kc hst tc3 rfl ?_) | (refine ka 9 hst tz217 rfl rfl ?_; clear hst; intro b9 w hb9 hst) | (refine kt hst ta217 rfl rfl ?_; clear hst; intro w hst) | (refine kc hst tc32 rfl ?_)); try simp only [pz, pn, sz, sc])
      refine bp_t rfl rfl (by rfl) ⟨?_, hst.keeps⟩
      rfl
    · rw [if_neg (by decide), if_neg (by decide), if_neg (by decide), if_pos rfl, show ((5 : Nat) : Int) = 5 from rfl] at *
      go_enter Tryz.func118, Tryz.ntmps118
      go_wp2_with ((first | (refine kf gf62 hst (his) rfl rfl rfl rfl ?_; clear hst; intro w hst) | (refine kB (hb _ _ _) rfl ?_) | (refine kg f5 hst (fun w hst => k5 b5 w (hst.own _ _ (by repeat (first | exact List.Mem.head _ | refine List.Mem.tail _ ?_)))) rfl rfl rfl rfl ?_; clear hst; intro w hst) | (refine wl_guard (by rfl) ?_) | (refine kb 5 hst rfl rfl ?_; clear hst; intro b5 w hb5 hst) | (refine kb 6 hst rfl rfl ?_; clear hst; intro b6 w hb6 hst) | (refine kb 7 hst rfl rfl ?_; clear hst; intro b7 w hb7 hst) | (refine kc hst tc3 rfl ?_) | (refine ka 9 hst tz217 rfl rfl ?_; clear hst; intro b9 w hb9 hst) | (refine kt hst ta217 rfl rfl ?_; clear hst; intro w hst) | (refine kc hst tc32 rfl ?_)); try simp only [pz, pn, sz, sc])
      refine bp_t rfl rfl (by rfl) ⟨?_, hst.keeps⟩
      rfl

end Go.Proofs.YtefpoconpeggpaaGreatDoor.Rd

namespace Go.Proofs.YtefpoconpeggpaaGreatDoor.Rd
open Go Go.RowKit
set_option linter.unusedVariables false
set_option linter.unusedSimpArgs false
set_option maxRecDepth 100000

theorem on_disable (w : World) : (callFunc 177 #[]).run Tryz.prog w = .ok (.value (.tuple #[])) w := run_call_mark0 Tryz.func177 (by kernel_rfl) (by kernel_rfl) (by kernel_rfl) .disable (by kernel_rfl) w
theorem on_enable (w : World) : (callFunc 179 #[]).run Tryz.prog w = .ok (.value (.tuple #[])) w := run_call_mark0 Tryz.func179 (by kernel_rfl) (by kernel_rfl) (by kernel_rfl) .enable (by kernel_rfl) w
theorem on_acquire (a : Addr) (w : World) : (callFunc 180 #[.pointer (some a)]).run Tryz.prog w = .ok (.value (.tuple #[])) w := run_call_marked Tryz.func180 (by kernel_rfl) (by kernel_rfl) (by kernel_rfl) .acquire (by kernel_rfl) a w
theorem on_release (a : Addr) (w : World) : (callFunc 182 #[.pointer (some a)]).run Tryz.prog w = .ok (.value (.tuple #[])) w := run_call_marked Tryz.func182 (by kernel_rfl) (by kernel_rfl) (by kernel_rfl) .releaseMerge (by kernel_rfl) a w

theorem on_store (a : Addr) (x : Value) (u : FrameMode) (w : World) (hc : w.cell? a = some x) (hz : w.frozen? a = false) :
    CallsD Tryz.prog 165 #[.pointer (some a), .bool true] u w fun e u' w' => u' = u ∧ (e = .returned (.tuple #[]) ∧ w' = w.drew.setCell a (.int .u32 1)) := by
  have hc' : w.drew.cell? a = some x := by go_simp
  have hz' : w.drew.frozen? a = false := by go_simp
  have hst := run_call_store (P := Tryz.prog) Tryz.func174 (by kernel_rfl) (by kernel_rfl) (by kernel_rfl) (by kernel_rfl) (k := .u32) (y := 1) hc' hz'
  go_enter_d Tryz.func165, Tryz.ntmps165
  go_wp2
  go_region_calls
  all_goals (go_end0; exact ⟨rfl, rfl⟩)

theorem on_unlock (a : Addr) (u : FrameMode) (w : World) (hc : w.cell? a = some (.int .i32 1)) (hz : w.frozen? a = false) :
    CallsD Tryz.prog 164 #[.pointer (some a)] u w fun e u' w' => u' = u ∧ (e = .returned (.tuple #[]) ∧ w' = w.setCell a (.int .i32 0)) := by
  have hd := on_disable
  have he := on_enable
  have hr := on_release
  have hadd := run_call_add (P := Tryz.prog) Tryz.func183 (by kernel_rfl) (by kernel_rfl) (by kernel_rfl) .i32 (by kernel_rfl) (y := -1) (s := 0) hc hz (by simp [go_sem]; rfl)
  have hcv := run_convert_to_unsafe (P := Tryz.prog) (src := 243) (dst := 247) Tryz.underlying243 Tryz.underlying247 (by kernel_rfl) hc
  go_enter_d Tryz.func164, Tryz.ntmps164
  go_wp2
  go_end0
  go_wp2
  go_end0
  exact ⟨rfl, rfl⟩

theorem on_lock (a : Addr) (w : World) (hc : w.cell? a = some (.int .i32 0)) (hz : w.frozen? a = false) :
    Calls Tryz.prog 163 #[.pointer (some a)] w fun e w' => e = .returned (.tuple #[]) ∧ w' = w.setCell a (.int .i32 1) := by
  have hd := on_disable
  have he := on_enable
  have ha := on_acquire
  have hcas := run_call_cas_hit (P := Tryz.prog) Tryz.func178 (by kernel_rfl) (by kernel_rfl) (by kernel_rfl) .i32 (by kernel_rfl) (y := 1) hc hz
  have hc' : (w.setCell a (.int .i32 1)).cell? a = some (.int .i32 1) := World.cell?_setCell_same w a _ hc
  have hcv := run_convert_to_unsafe (P := Tryz.prog) (src := 243) (dst := 247) Tryz.underlying243 Tryz.underlying247 (by kernel_rfl) hc'
  go_enter Tryz.func163, Tryz.ntmps163
  go_wp2
  first | go_end0 | (simp only [Exit.inBlock, Exit.then]; refine bodyPost_ret (results_none rfl _ _ _) rfl ?_) | refine bodyPost_ret (results_none rfl _ _ _) rfl ?_
  go_wp2
  go_end0
  exact ⟨rfl, rfl⟩

set_option maxHeartbeats 1600000 in
theorem on_slow (f : FuncId) (hf : GoF Tryz.prog f) (cap : Array Value) (b off : Nat) (R : World → Prop) (w : World)
    (h0 : w.cell? ⟨b, off, none⟩ = some (.int .u32 0)) (h1 : w.cell? ⟨b, off + 1, none⟩ = some (.int .i32 0)) (f0 : w.frozen? ⟨b, off, none⟩ = false) (f1 : w.frozen? ⟨b, off + 1, none⟩ = false)
    (hc : Calls Tryz.prog f cap (w.setCell ⟨b, off + 1, none⟩ (.int .i32 1)) fun e w2 => e = .returned (.tuple #[]) ∧ (∃ x, w2.cell? ⟨b, off, none⟩ = some x) ∧ w2.frozen? ⟨b, off, none⟩ = false ∧ w2.cell? ⟨b, off + 1, none⟩ = some (.int .i32 1) ∧ w2.frozen? ⟨b, off + 1, none⟩ = false ∧ R w2) :
    Calls Tryz.prog 138 #[.pointer (some ⟨b, off, none⟩), .func (.func f) #[] cap] w fun e w' => e = .returned (.tuple #[]) ∧ ∃ w2, R w2 ∧ w' = (w2.drew.setCell ⟨b, off, none⟩ (.int .u32 1)).setCell ⟨b, off + 1, none⟩ (.int .i32 0) := by
  have hl := run_call_load (P := Tryz.prog) Tryz.func162 (by kernel_rfl) (by kernel_rfl) (by kernel_rfl) .u32 (by kernel_rfl) (w := w.setCell ⟨b, off + 1, none⟩ (.int .i32 1)) (a := ⟨b, off, none⟩) (x := 0) ((World.cell?_setCell_other _ ⟨b, off + 1, none⟩ ⟨b, off, none⟩ _ (by simp)).trans h0)
  have hnot : ∀ (x : Bool) (w : World), (Op.unary .not (.bool x)).run Tryz.prog w = .ok (.bool (!x)) w := fun _ _ => rfl
  go_enter_defers Tryz.func138, Tryz.ntmps138
  go_wp2_with (go_at_call 163; refine (on_lock ⟨b, off + 1, none⟩ _ (by go_simp) (by go_simp)).mono ?_; rintro e w' ⟨rfl, rfl⟩)
  go_wp2
  rw [run_callFunc_go hf, Oper.upon_enter]
  refine hc.mono ?_
  rintro e w2 ⟨rfl, ⟨x, hx⟩, z0, c1, z1, hR⟩
  go_wp2
  -- the door: two deferred calls, the last laid first
  refine leaves_cons (f := 165) (args := #[.pointer (some ⟨b, off, none⟩), .bool true]) (by simp) (by simp [go_sem]) ?_
  refine (on_store ⟨b, off, none⟩ x .returning _ hx z0).mono ?_
  rintro e u' w'' ⟨rfl, rfl, rfl⟩
  refine leaves_cons (f := 164) (args := #[.pointer (some ⟨b, off + 1, none⟩)]) (by simp [settle]) (by simp [go_sem]) ?_
  refine (on_unlock ⟨b, off + 1, none⟩ _ _ ?_ (by simp [z1])).mono ?_
  · refine (World.cell?_setCell_other _ ⟨b, off, none⟩ ⟨b, off + 1, none⟩ _ (by simp)).trans ?_
    rw [World.cell?_drew]; exact c1
  rintro e u' w'' ⟨rfl, rfl, rfl⟩
  simp [Leaves, settle, results, Tryz.results138]
  exact ⟨w2, hR, rfl⟩

/-- Do, not yet done, the lock free. -/
theorem on_do (f : FuncId) (hf : GoF Tryz.prog f) (cap : Array Value) (b off : Nat) (R : World → Prop) (w : World)
    (h0 : w.cell? ⟨b, off, none⟩ = some (.int .u32 0)) (h1 : w.cell? ⟨b, off + 1, none⟩ = some (.int .i32 0)) (f0 : w.frozen? ⟨b, off, none⟩ = false) (f1 : w.frozen? ⟨b, off + 1, none⟩ = false)
    (hc : Calls Tryz.prog f cap (w.setCell ⟨b, off + 1, none⟩ (.int .i32 1)) fun e w2 => e = .returned (.tuple #[]) ∧ (∃ x, w2.cell? ⟨b, off, none⟩ = some x) ∧ w2.frozen? ⟨b, off, none⟩ = false ∧ w2.cell? ⟨b, off + 1, none⟩ = some (.int .i32 1) ∧ w2.frozen? ⟨b, off + 1, none⟩ = false ∧ R w2) :
    Calls Tryz.prog 110 #[.pointer (some ⟨b, off, none⟩), .func (.func f) #[] cap] w fun e w' => e = .returned (.tuple #[]) ∧ ∃ w2, R w2 ∧ w' = (w2.drew.setCell ⟨b, off, none⟩ (.int .u32 1)).setCell ⟨b, off + 1, none⟩ (.int .i32 0) := by
  have hl := run_call_load (P := Tryz.prog) Tryz.func162 (by kernel_rfl) (by kernel_rfl) (by kernel_rfl) .u32 (by kernel_rfl) h0
  have hnot : ∀ (x : Bool) (w : World), (Op.unary .not (.bool x)).run Tryz.prog w = .ok (.bool (!x)) w := fun _ _ => rfl
  go_enter Tryz.func110, Tryz.ntmps110
  go_wp2_with (first | (go_at_call 138; refine (on_slow f hf cap b off R _ h0 h1 f0 f1 hc).mono ?_; rintro e w' ⟨rfl, w2, hR, rfl⟩) | (go_at_call 137; go_in))
  go_end0
  exact ⟨rfl, w2, hR, rfl⟩

/-- Do, done already. -/
theorem on_done (a : Addr) (d : Int) (hd : ¬ d = 0) (fv : Value) (w : World) (h0 : w.cell? a = some (.int .u32 d)) :
    Calls Tryz.prog 110 #[.pointer (some a), fv] w fun e w' => e = .returned (.tuple #[]) ∧ w' = w := by
  have hl := run_call_load (P := Tryz.prog) Tryz.func162 (by kernel_rfl) (by kernel_rfl) (by kernel_rfl) .u32 (by kernel_rfl) h0
  have hnot : ∀ (x : Bool) (w : World), (Op.unary .not (.bool x)).run Tryz.prog w = .ok (.bool (!x)) w := fun _ _ => rfl
  have hd' : (d != 0) = true := by simp [hd]
  go_enter Tryz.func110, Tryz.ntmps110
  go_wp2
  go_end0
  exact ⟨rfl, rfl⟩

end Go.Proofs.YtefpoconpeggpaaGreatDoor.Rd
