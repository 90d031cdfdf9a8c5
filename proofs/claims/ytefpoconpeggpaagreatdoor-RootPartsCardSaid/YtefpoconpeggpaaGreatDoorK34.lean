/- What ref01.Odd, ref09.Top, Down answer of a number that is known by comparing. -/
import Derived.Test.YtefpoconpeggpaaGreatDoorK33
namespace Go.Proofs.YtefpoconpeggpaaGreatDoor.Rd
open Go Go.RowKit
set_option linter.unusedVariables false
set_option linter.unusedSimpArgs false
set_option maxRecDepth 100000

/-- x is held against m times 2^k as c says. -/
def CmpIs (x : Value) (c : Nat → Int → Int) (w0 : World) : Prop :=
  ∀ w, Keeps [] w0 w → ∀ (vm : Value) (lm m : Nat) (k : Int), BigAt w vm lm m → lm ≤ 300 → -40000000 ≤ k → k ≤ 40000000 → GivesAt Tryz.prog 15 #[vm, .int .i64 k, x] (.int .i64 (c m k)) w
theorem CmpIs.keep {x : Value} {c : Nat → Int → Int} {w0 w : World} (h : CmpIs x c w0) (k : Keeps [] w0 w) : CmpIs x c w := fun w' k' => h w' (k.trans k' (by simp))

set_option maxHeartbeats 4000000 in
theorem ref09_Top (ng : Bool) (K N D : Nat) (vN vD : Value) (lN lD : Nat) (E : Int) (c : Nat → Int → Int) (e : Int) (r : Nat) (s : Bool) (hK : KnC c e r s) (hr : r ≠ 0) (hK1 : 1 ≤ K) (hK3 : K ≤ 3) (hbN : bl N ≤ 32000) (hbD : bl D ≤ 32000) (hbr : bl r ≤ 32000)
    (hE1 : -100000000 ≤ E) (hE2 : E ≤ 100000000) (he1 : -10000000 ≤ e) (he2 : e ≤ 10000000) (hs1 : e + (bl r : Int) - 1 ≤ ((bl N : Int) + E - bl D) / K + 3) (hs2 : ((bl N : Int) + E - bl D) / K + 3 ≤ 20000000) (w0 : World) (hC : CmpIs (RlV ng K vN vD E) c w0) (hN : BigAt w0 vN lN N) (hD : BigAt w0 vD lD D) :
    GivesAt Tryz.prog 49 #[RlV ng K vN vD E] (.int .i64 (e + (bl r : Int) - 1)) w0 := by
  have hst := St.start [] w0
  have hl1 := Lib.hid (fun w (k : Keeps [] w0 w) => ref01_Len vN lN N w (hN.keep k))
  have hl2 := Lib.hid (fun w (k : Keeps [] w0 w) => ref01_Len vD lD D w (hD.keep k))
  have hone := fun w => ref01_Small 1 (by decide) w
  have hfl := ref09_floor ((bl N : Int) + E - bl D) K hK1 hK3 (by omega) (by omega)
  have W1 : IntKind.i64.wrap ((bl N : Int) + E) = (bl N : Int) + E := by rw [IntKind.wrap_i64]; omega
  have W2 : IntKind.i64.wrap ((bl N : Int) + E - bl D) = (bl N : Int) + E - bl D := by rw [IntKind.wrap_i64]; omega
  obtain ⟨q, hq⟩ : ∃ q, q = ((bl N : Int) + E - bl D) / K := ⟨_, rfl⟩
  rw [← hq] at hs1 hs2 hfl
  have hrp := bl_pos hr
  obtain ⟨tp, htp⟩ : ∃ tp, tp = e + (bl r : Int) - 1 := ⟨_, rfl⟩
  rw [← htp] at hs1 ⊢
  have ht1 : -20000000 ≤ tp := by omega
  have ht2 : tp ≤ 20000000 := by omega
  have hc := Lib.hid (show ∀ k, tp ≤ k → k ≤ 30000000 → (c 1 k ≤ 0 ↔ k = tp) from fun k hk _ => by
    have h := hK.top hr (k - e).toNat
    rw [show e + ((k - e).toNat : Int) = k by omega] at h
    rw [h]; omega)
  obtain ⟨aN, xN, yN, rfl⟩ := hN.slice
  obtain ⟨aD, xD, yD, rfl⟩ := hD.slice
  have hC' := Lib.hid hC
  have hdl := dl_B 1 (by decide)
  have hdl' := Lib.hid (show dl 1 ≤ 300 by omega)
  clear hN hD hC hK hr hq hK1 hK3 hrp htp hdl
  unfold RlV at *
  generalize bl N = kN at *
  generalize bl D = kD at *
  go_enter Tryz.func49, Tryz.ntmps49
  go_wp2_with ((first | (refine kb 1 hst rfl rfl ?_; clear hst; intro b1 w hb1 hst)); try simp only [pz, pn, sz, sc])
  refine wp_region_T 11  hst (by kernel_rfl) ?_; clear hst; intro w hst; (try simp only [List.length_cons, List.length_nil, Nat.reduceAdd, Array.replicate_succ, Array.replicate_zero, List.push_toArray, List.nil_append, List.cons_append])
  refine r0 0 ?_; simp only [pz, pn, sz, sc, W1, W2]
  refine r0 3 ?_; simp only [pz, pn, sz, sc, W1, W2]
  refine r0 6 ?_; simp only [pz, pn, sz, sc, W1, W2]
  refine rl 1 rfl ?_ (ylC tc39); simp only [pz, pn, sz, sc, W1, W2]
  refine rl 4 rfl ?_ (ylC tc3); simp only [pz, pn, sz, sc, W1, W2]
  refine rl 7 rfl ?_ (ylC tc39); simp only [pz, pn, sz, sc, W1, W2]
  refine r1 2 ?_; (refine kg gf20 hst (fun w hst => hl1.out w hst.keeps) rfl rfl rfl rfl ?_; clear hst; intro w hst); (try simp only [pz, pn, sz, sc, W1, W2]); refine re ?_
  refine r0 5 ?_; simp only [pz, pn, sz, sc, W1, W2]
  refine r1 8 ?_; (refine kg gf20 hst (fun w hst => hl2.out w hst.keeps) rfl rfl rfl rfl ?_; clear hst; intro w hst); (try simp only [pz, pn, sz, sc, W1, W2]); refine re ?_
  refine r0 9 ?_; simp only [pz, pn, sz, sc, W1, W2]
  refine r0 10 ?_; simp only [pz, pn, sz, sc, W1, W2]
  refine rd_ ?_
  all_goals
    go_wp2_with ((first | (refine kf gf78 hst (hfl) rfl rfl rfl rfl ?_; clear hst; intro w hst) | (refine kc hst tc3 rfl ?_)); try simp only [pz, pn, sz, sc])
    clear hfl hl1 hl2
    go_loopw [3] (fun vk wr => ∃ (k : Int) (Lall : List (Nat × Obj)), tp ≤ k ∧ k ≤ 30000000 ∧ vk = .int .i64 k ∧ St w0 [] ((b1, .cells #[.bool ng, .int .i64 K, .slice aN xN yN, .slice aD xD yD, .int .i64 E] 41) :: Lall) wr) (fun vk _ => (intOf vk - tp).toNat)
    case atStart => exact ⟨q + 3, _, by omega, by omega, rfl, hst⟩
    case round =>
      clear hst
      obtain ⟨k, Lall, k1, k2, rfl, hst⟩ := hrel
      have hck := hc.out k k1 k2
      have hcm := fun w (kp : Keeps [] w0 w) vm h => hC'.out w kp vm (dl 1) 1 k h hdl'.out (by omega) (by omega)
      obtain ⟨z, hz⟩ : ∃ z, z = c 1 k := ⟨_, rfl⟩
      rw [← hz] at hck hcm
      clear hz
      by_cases hkt : k = tp
      · have z0 : decide (0 < z) = false := decide_eq_false (by have := hck.2 hkt; omega)
        subst hkt
        clear hck
        go_wp2_with fail
        refine wp_region_TV 5 [(b1, .cells #[.bool ng, .int .i64 K, .slice aN xN yN, .slice aD xD yD, .int .i64 E] 41)] hst (by kernel_rfl) ?_; clear hst; intro w hst; (try simp only [List.length_cons, List.length_nil, Nat.reduceAdd, Array.replicate_succ, Array.replicate_zero, List.push_toArray, List.nil_append, List.cons_append])
        refine r0 1 ?_; simp only [pz, pn, sz, sc]
        refine rl 2 rfl ?_ (by first | exact ylA ta41 | exact ylM ta41); simp only [pz, pn, sz, sc]
        refine r1 0 ?_; (refine wl_callB (o := ⟨some 19, _, _, _, _, _⟩) gf33 hst (fun w hst => hone w) rfl rfl rfl rfl rfl ?_; clear hst; intro v19 Lg19 w hb19 hst; (try simp only [List.cons_append, List.nil_append, List.append_nil, List.append_assoc] at hst); (try simp only [pz, pn, sz, sc])); (try simp only [pz, pn, sz, sc]); refine re ?_
        refine r1 3 ?_; (refine kg gf15 hst (fun w hst => hcm w hst.keeps _ (hb19.at hst (fun x h => by simp [h]))) rfl rfl rfl rfl ?_; clear hst; intro w hst); (try simp only [pz, pn, sz, sc]); refine re ?_
        refine r0 4 ?_; simp only [pz, pn, sz, sc]
        refine rd_ ?_
        all_goals
          go_wp2_with fail
          refine bp_t rfl rfl (by rfl) ⟨?_, hst.keeps⟩
          rfl
      · have z0 : decide (0 < z) = true := decide_eq_true (by have := mt hck.1 hkt; omega)
        clear hck
        go_wp2_with fail
        refine wp_region_TV 5 [(b1, .cells #[.bool ng, .int .i64 K, .slice aN xN yN, .slice aD xD yD, .int .i64 E] 41)] hst (by kernel_rfl) ?_; clear hst; intro w hst; (try simp only [List.length_cons, List.length_nil, Nat.reduceAdd, Array.replicate_succ, Array.replicate_zero, List.push_toArray, List.nil_append, List.cons_append])
        refine r0 1 ?_; simp only [pz, pn, sz, sc]
        refine rl 2 rfl ?_ (by first | exact ylA ta41 | exact ylM ta41); simp only [pz, pn, sz, sc]
        refine r1 0 ?_; (refine wl_callB (o := ⟨some 19, _, _, _, _, _⟩) gf33 hst (fun w hst => hone w) rfl rfl rfl rfl rfl ?_; clear hst; intro v19 Lg19 w hb19 hst; (try simp only [List.cons_append, List.nil_append, List.append_nil, List.append_assoc] at hst); (try simp only [pz, pn, sz, sc])); (try simp only [pz, pn, sz, sc]); refine re ?_
        refine r1 3 ?_; (refine kg gf15 hst (fun w hst => hcm w hst.keeps _ (hb19.at hst (fun x h => by simp [h]))) rfl rfl rfl rfl ?_; clear hst; intro w hst); (try simp only [pz, pn, sz, sc]); refine re ?_
        refine r0 4 ?_; simp only [pz, pn, sz, sc]
        refine rd_ ?_
        all_goals
          go_wp2_with fail
          refine ⟨⟨k - 1, _, by omega, by omega, by go_num, hst⟩, ?_⟩
          (simp [intOf]; try omega)

/-- What Down and At answer: a number of any length, and something. -/
def RT (u : Value) (n : Nat) (Lg : List (Nat × Obj)) (v : Value) : Prop := ∃ sl, v = .tuple #[sl, u] ∧ BigIn 0 Lg sl n
theorem dl_2pow (x k : Nat) (h : x < 2 ^ k) : dl x ≤ k / 32 + 1 := by
  apply dl_le.2
  rw [show C = 2 ^ 32 from rfl, ← Nat.pow_mul]
  exact Nat.lt_of_lt_of_le h (Nat.pow_le_pow_right (by omega) (by omega))

set_option maxHeartbeats 8000000 in
theorem ref09_Down (ng : Bool) (K : Nat) (aN aD : Option Addr) (xN yN xD yD : Nat) (E : Int) (c : Nat → Int → Int) (e : Int) (r : Nat) (s : Bool) (hK : KnC c e r s) (b p : Nat) (hp1 : 1 ≤ p) (hp2 : p ≤ 600) (hb : b ≤ 3000000) (hrp : r / 2 ^ (b + 1) < 2 ^ p) (pl : Int) (hpl : pl = e + ((b + 1 : Nat) : Int))
    (he1 : -10000000 ≤ e) (he2 : e ≤ 10000000) (w0 : World) (hC : CmpIs (RlV ng K (.slice aN xN yN) (.slice aD xD yD) E) c w0) :
    GivesN Tryz.prog 60 #[RlV ng K (.slice aN xN yN) (.slice aD xD yD) E, .int .i64 pl, .int .i64 p] (RT (.int .i64 (restN r (b + 1) s : Nat)) (r / 2 ^ (b + 1))) w0 := by
  have hst := St.start [] w0
  have hle := Lib.hid (fun m => hK.le m (b + 1))
  have hrest := hK.rest b
  rw [← hpl] at hle hrest
  obtain ⟨Q, hQ⟩ : ∃ Q, Q = r / 2 ^ (b + 1) := ⟨_, rfl⟩
  rw [← hQ] at hle hrest hrp ⊢
  obtain ⟨rs, hrs⟩ : ∃ rs, rs = restN r (b + 1) s := ⟨_, rfl⟩
  rw [← hrs] at hrest ⊢
  have hC' := Lib.hid hC
  have hpw := Lib.hid (fun j (hj : j ≤ 600) w => ref02_Power j (by omega) w)
  have hstep := Lib.hid (hig_step Q)
  have hadd := Lib.hid (fun j (hj : j < p) => hig_add_lt Q p j hrp hj)
  have htop := Lib.hid (hig_top Q p hrp)
  have hzero := Lib.hid (hig_zero Q)
  have hhle := Lib.hid (hig_le Q)
  have pl1 : -10000000 ≤ pl := by omega
  have pl2 : pl ≤ 13000001 := by omega
  have hplE : pl - 1 = e + (b : Int) := by omega
  have hQp := Lib.hid hrp
  clear hC hK hQ hrs hb hrp hpl he1 he2
  unfold RlV at *
  have hrest' := Lib.hid hrest
  clear hrest
  go_enter Tryz.func60, Tryz.ntmps60
  go_wp2_with ((first | (refine kb 3 hst rfl rfl ?_; clear hst; intro b3 w hb3 hst) | (refine wl_slice0 (o := ⟨some 11, _, _, _, _, _⟩) hst (show SliceT _ 39 72 by unfold SliceT; kernel_rfl) (show ElemT Tryz.prog 72 1 (.int .u32 0) from ElemT.of (by kernel_rfl)) rfl rfl ?_; clear hst; intro b11 w hb11 hst)); try simp only [pz, pn, sz, sc])
  go_loopw [9, 8] (fun vi vm wr => ∃ (j : Nat) (Lm Lall : List (Nat × Obj)), j ≤ p ∧ vi = .int .i64 ((j : Int) - 1) ∧ BigIn w0.heap.size Lm vm (hig Q j) ∧ (∀ x ∈ Lm, x ∈ Lall) ∧
    St w0 [] ((b3, .cells #[.bool ng, .int .i64 K, .slice aN xN yN, .slice aD xD yD, .int .i64 E] 41) :: Lall) wr) (fun vi _ _ => (intOf vi + 1).toNat)
  case atStart => exact ⟨p, [], [], by omega, rfl, by rw [htop.out]; exact BigIn.zero _ _ _, fun x h => absurd h (by simp), hst.sub (by repeat (first | exact List.Sublist.refl _ | exact List.nil_sublist _ | refine List.Sublist.cons_cons _ ?_ | refine List.Sublist.cons _ ?_))⟩
  case round =>
    clear hst
    obtain ⟨j, Lm, Lall, hj, rfl, hbm, hLm, hst⟩ := hrel
    by_cases hlt : 0 < j
    · obtain ⟨i, rfl⟩ : ∃ i, j = i + 1 := ⟨j - 1, by omega⟩
      have hq := hadd.out i (by omega)
      have hs := hstep.out i
      have c1 := fun w => hpw.out i (by omega) w
      have q1 : dl (hig Q (i + 1)) ≤ 100000 := by have := dl_2pow _ p (Nat.lt_of_le_of_lt (hhle.out (i + 1)) hQp.out); omega
      have q2 : dl (2 ^ i) ≤ 100000 := by have := dl_2pow (2 ^ i) p (Nat.pow_lt_pow_right (by omega) (by omega)); omega
      have c2 := fun va vb w (ha : BigAt w va (dl (hig Q (i + 1))) (hig Q (i + 1))) (hb : BigAt w vb (dl (2 ^ i)) (2 ^ i)) => ref01_Add va vb _ _ _ _ w ha hb q1 q2
      obtain ⟨q, hqd⟩ : ∃ q, q = hig Q (i + 1) + 2 ^ i := ⟨_, rfl⟩
      rw [← hqd] at hq hs c2
      have q3 : dl q ≤ 300 := by have := dl_2pow q p hq; omega
      have c3 := fun w (kp : Keeps [] w0 w) vm h => hC'.out w kp vm (dl q) q pl h q3 (by omega) (by omega)
      have hd := hle.out q
      obtain ⟨iv, hiv⟩ : ∃ iv : Int, iv = ((i + 1 : Nat) : Int) - 1 := ⟨_, rfl⟩
      rw [show (i : Int) = iv by omega] at c1
      rw [← hiv]
      have i1 : (0 : Int) ≤ iv := by omega
      have i2 : iv ≤ 700 := by omega
      have hiv' := Lib.hid hiv
      have hs' := Lib.hid hs
      obtain ⟨z, hz⟩ : ∃ z, z = c q pl := ⟨_, rfl⟩
      rw [← hz] at hd c3
      clear hiv hs q1 q2 q3 hz hq hqd
      by_cases hz0 : z ≤ 0
      · have he := Lib.hid (hs'.out.1 (hd.1 hz0))
        clear hd
        go_wp2_with ((first | (refine wl_callB (o := ⟨some 20, _, _, _, _, _⟩) gf90 hst (fun w hst => c1 w) rfl rfl rfl rfl rfl ?_; clear hst; intro v20 Lg20 w hb20 hst; (try simp only [List.cons_append, List.nil_append, List.append_nil, List.append_assoc] at hst); (try simp only [pz, pn, sz, sc])) | (refine wl_callB (o := ⟨some 21, _, _, _, _, _⟩) gf17 hst (fun w hst => c2 _ _ w (hbm.at hst (fun x h => by have := hLm x h; simp [this])) (hb20.at hst (fun x h => by simp [h]))) rfl rfl rfl rfl rfl ?_; clear hst; intro v21 Lg21 w hb21 hst; (try simp only [List.cons_append, List.nil_append, List.append_nil, List.append_assoc] at hst); (try simp only [pz, pn, sz, sc])) | (refine kg gf15 hst (fun w hst => c3 w hst.keeps _ (hb21.at hst (fun x h => by simp [h]))) rfl rfl rfl rfl ?_; clear hst; intro w hst) | (refine kl hst ta41 rfl ?_)); try simp only [pz, pn, sz, sc])
        refine ⟨⟨i, Lg21, _, by omega, by have := hiv'.out; first | rfl | (congr 1; omega) | congr 1, by rw [he.out]; exact hb21, fun x h => by simp [h], hst⟩, ?_⟩
        have := hiv'.out; (simp [intOf]; try omega)
      · have he := Lib.hid (hs'.out.2 (fun h => hz0 (hd.2 h)))
        have hz1 : decide (z ≤ 0) = false := decide_eq_false hz0
        clear hd hz0
        go_wp2_with ((first | (refine wl_callB (o := ⟨some 20, _, _, _, _, _⟩) gf90 hst (fun w hst => c1 w) rfl rfl rfl rfl rfl ?_; clear hst; intro v20 Lg20 w hb20 hst; (try simp only [List.cons_append, List.nil_append, List.append_nil, List.append_assoc] at hst); (try simp only [pz, pn, sz, sc])) | (refine wl_callB (o := ⟨some 21, _, _, _, _, _⟩) gf17 hst (fun w hst => c2 _ _ w (hbm.at hst (fun x h => by have := hLm x h; simp [this])) (hb20.at hst (fun x h => by simp [h]))) rfl rfl rfl rfl rfl ?_; clear hst; intro v21 Lg21 w hb21 hst; (try simp only [List.cons_append, List.nil_append, List.append_nil, List.append_assoc] at hst); (try simp only [pz, pn, sz, sc])) | (refine kg gf15 hst (fun w hst => c3 w hst.keeps _ (hb21.at hst (fun x h => by simp [h]))) rfl rfl rfl rfl ?_; clear hst; intro w hst) | (refine kl hst ta41 rfl ?_)); try simp only [pz, pn, sz, sc])
        refine ⟨⟨i, Lm, _, by omega, by have := hiv'.out; first | rfl | (congr 1; omega) | congr 1, by rw [he.out]; exact hbm, fun x h => by simp [hLm x h], hst⟩, ?_⟩
        have := hiv'.out; (simp [intOf]; try omega)
    · obtain rfl : j = 0 := by omega
      have i1 : decide ((0 : Int) ≤ ((0 : Nat) : Int) - 1) = false := rfl
      rw [hzero.out] at hbm
      have q3 : dl Q ≤ 300 := by have := dl_2pow Q p hQp.out; omega
      have c3 := fun w (kp : Keeps [] w0 w) vm h => hC'.out w kp vm (dl Q) Q pl h q3 (by omega) (by omega)
      have hrest := hrest'.out
      obtain ⟨z, hz⟩ : ∃ z, z = c Q pl := ⟨_, rfl⟩
      rw [← hz] at c3 hrest
      clear hz hlt hstep hadd htop hzero hhle hle hpw
      by_cases hz0 : z = 0
      · subst hz0
        rw [if_pos rfl] at hrest
        have hrest2 := Lib.hid hrest
        clear hrest
        go_wp2_with ((first | (refine kg gf15 hst (fun w hst => c3 w hst.keeps _ (hbm.at hst (fun x h => by have := hLm x h; simp [this]))) rfl rfl rfl rfl ?_; clear hst; intro w hst) | (refine kl hst ta41 rfl ?_)); try simp only [pz, pn, sz, sc])
        refine bp_tt rfl rfl (by rfl) (by rfl) (PostN.of hst hbm.new ⟨_, ?_, hbm.any⟩ (fun x h => by simp [hLm x h]))
        rw [← hrest2.out]; rfl
      · have hzb : (z == 0) = false := by simpa using hz0
        rw [if_neg hz0] at hrest
        have hshl := fun v w (h : BigAt w v (dl Q) Q) => ref01_Shl v _ _ 1 w h (by omega) (by omega)
        rw [Nat.pow_one, Nat.mul_comm Q 2] at hshl
        have hone := fun w => ref01_Small 1 (by decide) w
        have d2 : dl (2 * Q) ≤ 300 := by
          have := dl_2pow (2 * Q) (p + 1) (by rw [Nat.pow_succ]; have := hQp.out; omega)
          omega
        have d1 := dl_B 1 (by decide)
        have hsum := fun va vb w (ha : BigAt w va (dl (2 * Q)) (2 * Q)) (hb : BigAt w vb (dl 1) 1) => ref01_Add va vb _ _ _ _ w ha hb (by omega) (by omega)
        have d3 : dl (2 * Q + 1) ≤ 300 := by
          have := dl_2pow (2 * Q + 1) (p + 1) (by rw [Nat.pow_succ]; have := hQp.out; omega)
          omega
        have c4 := fun w (kp : Keeps [] w0 w) vm h => hC'.out w kp vm (dl (2 * Q + 1)) (2 * Q + 1) (pl - 1) h d3 (by omega) (by omega)
        rw [← hplE] at hrest
        obtain ⟨y, hy⟩ : ∃ y, y = c (2 * Q + 1) (pl - 1) := ⟨_, rfl⟩
        rw [← hy] at c4 hrest
        have hrest2 := Lib.hid hrest
        have W1 : IntKind.i64.wrap (pl - 1) = pl - 1 := by rw [IntKind.wrap_i64]; omega
        have W2 : IntKind.i64.wrap (2 - max (-1) (min 1 y)) = 2 - max (-1) (min 1 y) := by rw [IntKind.wrap_i64]; omega
        clear hz0 hy hrest d1 d2 d3 q3 hplE
        generalize 2 * Q + 1 = Q2 at *
        generalize 2 * Q = Q1 at *
        go_wp2_with ((first | (refine kg gf15 hst (fun w hst => c3 w hst.keeps _ (hbm.at hst (fun x h => by have := hLm x h; simp [this]))) rfl rfl rfl rfl ?_; clear hst; intro w hst) | (refine kl hst ta41 rfl ?_)); try simp only [pz, pn, sz, sc])
        refine wp_region_TV 14 [(b3, .cells #[.bool ng, .int .i64 K, .slice aN xN yN, .slice aD xD yD, .int .i64 E] 41)] hst (by kernel_rfl) ?_; clear hst; intro w hst; (try simp only [List.length_cons, List.length_nil, Nat.reduceAdd, Array.replicate_succ, Array.replicate_zero, List.push_toArray, List.nil_append, List.cons_append])
        refine r0 0 ?_; simp only [pz, pn, sz, sc, W1, W2]
        refine r0 1 ?_; simp only [pz, pn, sz, sc, W1, W2]
        refine r0 5 ?_; simp only [pz, pn, sz, sc, W1, W2]
        refine r0 6 ?_; simp only [pz, pn, sz, sc, W1, W2]
        refine rl 7 rfl ?_ (by first | exact ylA ta41 | exact ylM ta41); simp only [pz, pn, sz, sc, W1, W2]
        refine r1 2 ?_; (refine wl_callB (o := ⟨some 36, _, _, _, _, _⟩) gf18 hst (fun w hst => hshl _ w (hbm.at hst (fun x h => by have := hLm x h; simp [this]))) rfl rfl rfl rfl rfl ?_; clear hst; intro v36 Lg36 w hb36 hst; (try simp only [List.cons_append, List.nil_append, List.append_nil, List.append_assoc] at hst); (try simp only [pz, pn, sz, sc])); (try simp only [pz, pn, sz, sc, W1, W2]); refine re ?_
        refine r1 3 ?_; (refine wl_callB (o := ⟨some 37, _, _, _, _, _⟩) gf33 hst (fun w hst => hone w) rfl rfl rfl rfl rfl ?_; clear hst; intro v37 Lg37 w hb37 hst; (try simp only [List.cons_append, List.nil_append, List.append_nil, List.append_assoc] at hst); (try simp only [pz, pn, sz, sc])); (try simp only [pz, pn, sz, sc, W1, W2]); refine re ?_
        refine r1 4 ?_; (refine wl_callB (o := ⟨some 38, _, _, _, _, _⟩) gf17 hst (fun w hst => hsum _ _ w (hb36.at hst (fun x h => by simp [h])) (hb37.at hst (fun x h => by simp [h]))) rfl rfl rfl rfl rfl ?_; clear hst; intro v38 Lg38 w hb38 hst; (try simp only [List.cons_append, List.nil_append, List.append_nil, List.append_assoc] at hst); (try simp only [pz, pn, sz, sc])); (try simp only [pz, pn, sz, sc, W1, W2]); refine re ?_
        refine r1 8 ?_; (refine kg gf15 hst (fun w hst => c4 w hst.keeps _ (hb38.at hst (fun x h => by simp [h]))) rfl rfl rfl rfl ?_; clear hst; intro w hst); (try simp only [pz, pn, sz, sc, W1, W2]); refine re ?_
        refine r0 9 ?_; simp only [pz, pn, sz, sc, W1, W2]
        refine r0 10 ?_; simp only [pz, pn, sz, sc, W1, W2]
        refine r0 11 ?_; simp only [pz, pn, sz, sc, W1, W2]
        refine r0 12 ?_; simp only [pz, pn, sz, sc, W1, W2]
        refine r0 13 ?_; simp only [pz, pn, sz, sc, W1, W2]
        refine rd_ ?_
        all_goals
          go_wp2_with fail
          refine bp_tt rfl rfl (by rfl) (by rfl) (PostN.of hst hbm.new ⟨_, ?_, hbm.any⟩ (fun x h => by simp [hLm x h]))
          rw [← hrest2.out]; rfl

end Go.Proofs.YtefpoconpeggpaaGreatDoor.Rd
