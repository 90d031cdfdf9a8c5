/- What ref07.Find answers: the greatest finite word that isn't above a number. -/
import Derived.Test.YtefpoconpeggpaaGreatDoorJ22
namespace Go.Proofs.YtefpoconpeggpaaGreatDoor.Rd
open Go Go.RowKit
set_option linter.unusedVariables false
set_option linter.unusedSimpArgs false
set_option maxRecDepth 100000

theorem cls_fin (f m : Nat) : 4 ≤ clsN f m ↔ wFin f m = true := by
  have hlt : wField f m < 2 ^ fK f := Nat.mod_lt _ (Nat.pow_pos (by omega))
  rw [← fE_pow] at hlt
  unfold wFin clsN
  rw [decide_eq_true_eq]
  by_cases hx : wField f m = 2 * fE f + 1
  · rw [if_pos hx]
    split
    · omega
    · split <;> omega
  · rw [if_neg hx]
    split
    · split <;> omega
    · omega
/-- One bit more, in the limbs of a word. -/
theorem word_bit (m i : Nat) (h : m + 2 ^ i < 2 ^ 128) (hb : m % 2 ^ (i + 1) = 0) :
    (64 ≤ i → lb (m + 2 ^ i) 1 = lb m 1 + 2 ^ (i - 64) ∧ lb (m + 2 ^ i) 0 = lb m 0 ∧ lb m 1 + 2 ^ (i - 64) < B) ∧ (i < 64 → lb (m + 2 ^ i) 1 = lb m 1 ∧ lb (m + 2 ^ i) 0 = lb m 0 + 2 ^ i ∧ lb m 0 + 2 ^ i < B) := by
  have hB : B = 2 ^ 64 := rfl
  have e3 : ∀ n, lb n 1 = n / B % B := fun n => by unfold lb; rw [Nat.pow_one]
  have e4 : ∀ n, lb n 0 = n % B := fun n => by unfold lb; rw [Nat.pow_zero, Nat.div_one]
  rw [e3, e3, e4, e4]
  constructor
  · intro hi
    have e : 2 ^ i = B * 2 ^ (i - 64) := by rw [hB, ← Nat.pow_add]; congr 1; omega
    rw [e] at h ⊢
    rw [Nat.add_mul_div_left _ _ B_pos, Nat.add_mul_mod_self_left]
    generalize 2 ^ (i - 64) = t at *
    rw [hB] at *
    omega
  · intro hi
    have hd : ∃ k, m = k * 2 ^ (i + 1) := ⟨m / 2 ^ (i + 1), by have := Nat.div_add_mod m (2 ^ (i + 1)); rw [Nat.mul_comm]; omega⟩
    obtain ⟨k, rfl⟩ := hd
    have e : B = 2 ^ (63 - i) * 2 ^ (i + 1) := by rw [hB, ← Nat.pow_add]; congr 1; omega
    have hm : k * 2 ^ (i + 1) % B = k % 2 ^ (63 - i) * 2 ^ (i + 1) := by rw [e, Nat.mul_mod_mul_right]
    have hk : k % 2 ^ (63 - i) < 2 ^ (63 - i) := Nat.mod_lt _ (Nat.pow_pos (by omega))
    have hlt : k * 2 ^ (i + 1) % B + 2 ^ i < B := by
      have h1 : (k % 2 ^ (63 - i) + 1) * 2 ^ (i + 1) ≤ 2 ^ (63 - i) * 2 ^ (i + 1) := Nat.mul_le_mul_right _ hk
      rw [← e, Nat.add_mul, Nat.one_mul, ← hm, Nat.pow_succ] at h1
      have : 0 < 2 ^ i := Nat.pow_pos (by omega)
      rw [Nat.pow_succ]
      omega
    clear hk hm e hb
    generalize k * 2 ^ (i + 1) = n at *
    generalize 2 ^ i = t at *
    rw [hB] at *
    omega

set_option maxHeartbeats 16000000 in
theorem ref07_Find (f : Nat) (h1 : 1 ≤ f) (h4 : f ≤ 4) (va : Value) (lu u : Nat) (ng : Bool) (pl : Int) (M' : Nat) (hM : IsFind f u pl M') (hla : lu ≤ 1000) (hu : bl u ≤ 32000) (hp1 : -100000000 ≤ pl) (hp2 : pl ≤ 100000000) (w0 : World) (ha : BigAt w0 va lu u) :
    GivesAt Tryz.prog 54 #[.int .i64 f, .agg #[.bool ng, va, .int .i64 pl]] (Wd M') w0 := by
  have hst := St.start [] w0
  have hbt := ref05_Bits f h1 h4
  obtain ⟨N, hN⟩ : ∃ N, N = fB f - 1 := ⟨_, rfl⟩
  have hB := fB_in f
  have hbN : (fB f : Int) = (N : Int) + 1 := by omega
  rw [hbN] at hbt
  have hM2 : M2 = 2 ^ 128 := by decide
  have hcl := Lib.hid (fun q (hq : q < 2 ^ N) => ref06_Class f h1 h4 q (by rw [hM2]; exact Nat.lt_of_lt_of_le hq (Nat.pow_le_pow_right (by omega) (by omega))) (Nat.lt_of_lt_of_le hq (Nat.pow_le_pow_right (by omega) (by omega))))
  have hvl := Lib.hid (fun q (hq : q < 2 ^ N) => ref07_Value f h1 h4 q (by rw [hM2]; exact Nat.lt_of_lt_of_le hq (Nat.pow_le_pow_right (by omega) (by omega))) (Nat.lt_of_lt_of_le hq (Nat.pow_le_pow_right (by omega) (by omega))))
  have hP := fP_in f
  have hof := Lib.hid (fun q w => ref07_Of (wNeg f q) (wExp f q) (wSig f q) (Nat.lt_trans (wSig_lt f q) (small_M2 _ (by omega))) w)
  have hsz := Lib.hid (fun q sl w (h : BigAt w sl (dl (wSig f q)) (wSig f q)) (h' : BigAt w va lu u) => ref07_Size sl va (dl (wSig f q)) lu (wSig f q) u (wNeg f q) ng (wExp f q) pl
    (by
      have : wSig f q < C ^ 4 := Nat.lt_of_lt_of_le (wSig_lt f q) (by rw [show C = 2 ^ 32 from rfl, ← Nat.pow_mul]; exact Nat.pow_le_pow_right (by omega) (by omega))
      have := dl_le.2 this
      omega) hla (by have := wExp_in f q; omega) (by have := wExp_in f q; omega) hp1 hp2 (by have := bl_le.2 (wSig_lt f q); omega) hu w h h')
  have hMl : M' < 2 ^ N := by have := hM.1; have := fin_lt f; rw [hN]; omega
  have hdec := Lib.hid (show ∀ q, q < 2 ^ N → ((wFin f q = true ∧ szC (wSig f q) (wExp f q) u pl ≤ 0) ↔ q ≤ M') from fun q hq => hM.2 q (by rw [← hN]; exact hq) (wExp f q) rfl)
  have hk := Lib.hid (fun w (k : Keeps [] w0 w) => ha.keep k)
  obtain ⟨aa, xa, ya, rfl⟩ := ha.slice
  have hstep := Lib.hid (hig_step M')
  have hadd := Lib.hid (fun j (hj : j < N) => hig_add_lt M' N j hMl hj)
  have hbit := Lib.hid (fun i (h : hig M' (i + 1) + 2 ^ i < 2 ^ 128) => word_bit (hig M' (i + 1)) i h (by unfold hig; exact Nat.mul_mod_left _ _))
  have hN1 : N ≤ 127 := by omega
  have hN2 : 1 ≤ N := by omega
  have htop := Lib.hid (hig_top M' N hMl)
  have hzero := Lib.hid (hig_zero M')
  have hwz : wdc 0 = #[Value.int .u64 0, .int .u64 0] := by kernel_rfl
  have hW : IntKind.i64.wrap ((N : Int) + 1 - 2) = (N : Int) - 1 := by rw [IntKind.wrap_i64]; omega
  clear ha hM hla hu hp1 hp2 hN hbN hB hM2 hMl hP h1 h4
  go_enter Tryz.func54, Tryz.ntmps54
  go_wp2_with ((first | (refine kf gf66 hst (hbt) rfl rfl rfl rfl ?_; clear hst; intro w hst) | (refine kb 3 hst rfl rfl ?_; clear hst; intro b3 w hb3 hst) | (refine ka 4 hst tz24 rfl rfl ?_; clear hst; intro b4 w hb4 hst) | (refine ka 5 hst tz24 rfl rfl ?_; clear hst; intro b5 w hb5 hst) | (refine kt hst ta24 rfl rfl ?_; clear hst; intro w hst)); try simp only [pz, pn, sz, sc])
  go_loopw [6] (fun vi wr => ∃ j : Nat, j ≤ N ∧ vi = .int .i64 ((j : Int) - 1) ∧ St w0 [] [(b5, .cells (wdc (hig M' j)) 24), (b4, .cells (wc 2 0) 24), (b3, .cells #[.bool ng, .slice aa xa ya, .int .i64 pl] 61)] wr) (fun vi _ => (intOf vi + 1).toNat)
  case atStart => exact ⟨N, by omega, by first | rfl | (congr 1; omega), by rw [htop.out, hwz]; exact hst⟩
  case round =>
    clear hst
    obtain ⟨j, hj, rfl, hst⟩ := hrel
    by_cases hlt : 0 < j
    · obtain ⟨i, rfl⟩ : ∃ i, j = i + 1 := ⟨j - 1, by omega⟩
      obtain ⟨iv, hiv⟩ : ∃ iv : Int, iv = ((i + 1 : Nat) : Int) - 1 := ⟨_, rfl⟩
      rw [← hiv]
      have i1 : (0 : Int) ≤ iv := by omega
      have i2 : iv ≤ 130 := by omega
      have hq := hadd.out i (by omega)
      have hq128 : hig M' (i + 1) + 2 ^ i < 2 ^ 128 := Nat.lt_of_lt_of_le hq (Nat.pow_le_pow_right (by omega) (by omega))
      obtain ⟨k1, k2⟩ := hbit.out i hq128
      have hs := hstep.out i
      obtain ⟨q, hqd⟩ : ∃ q, q = hig M' (i + 1) + 2 ^ i := ⟨_, rfl⟩
      obtain ⟨o, ho⟩ : ∃ o, o = hig M' (i + 1) := ⟨_, rfl⟩
      rw [← hqd] at hq k1 k2 hs
      rw [← ho] at k1 k2 hs hst
      have z3 : (wdc o).size = 2 := rfl
      have hcl0 := hcl.out q hq
      have hvl0 := hvl.out q hq
      have hof0 := hof.out q
      have hsz0 := hsz.out q
      have hd := hdec.out q hq
      have hiv' := Lib.hid hiv
      have hs' := Lib.hid hs
      clear hiv hs hq128 hqd ho
      by_cases h64 : 64 ≤ i
      · obtain ⟨y1, y0, ylt⟩ := k1 h64
        obtain ⟨r, hr⟩ : ∃ r, r = i - 64 := ⟨_, rfl⟩
        rw [← hr] at y1 ylt
        have Q1 : iv - 64 = (r : Int) := by have := hiv'.out; omega
        have Q2 : (64 : Int) ≤ iv := by have := hiv'.out; omega
        have Q3 : (0 : Int) ≤ (r : Int) := by omega
        have Q4 : (r : Int) < 64 := by omega
        have P1 : IntKind.u64.wrap ((2 : Int) ^ r) = ((2 ^ r : Nat) : Int) := by
          have a : 2 ^ r ≤ 2 ^ 63 := Nat.pow_le_pow_right (by omega) (by omega)
          rw [show (2 : Int) ^ r = ((2 ^ r : Nat) : Int) by simp, u64_wrap, Nat.mod_eq_of_lt (by rw [B_val]; omega)]
        have P2 : IntKind.u64.wrap ((lb o 1 : Int) + ((2 ^ r : Nat) : Int)) = (lb q 1 : Int) := by rw [← Int.natCast_add, ← y1, u64_wrap, Nat.mod_eq_of_lt (lb_lt _ _)]
        have P3 : IntKind.i64.wrap (iv - 64) = (r : Int) := by rw [Q1, IntKind.wrap_i64]; omega
        have P6 : IntKind.i64.wrap (r : Int) = (r : Int) := by rw [IntKind.wrap_i64]; omega
        have P5 : IntKind.u64.wrap ((lb o 1 : Int) + (2 : Int) ^ r) = (lb q 1 : Int) := by rw [show (2 : Int) ^ r = ((2 ^ r : Nat) : Int) by simp]; exact P2
        have hcell : (wdc o).setIfInBounds 0 (.int .u64 (lb q 1 : Nat)) = wdc q := by unfold wdc; rw [y0]; rfl
        have hcell' := Lib.hid hcell
        have hP5 := Lib.hid P5
        clear k1 k2 y1 y0 ylt hcell h64 hr P5
        by_cases hf : wFin f q = true
        · have hc4 : (4 : Int) ≤ (clsN f q : Int) := by have := (cls_fin f q).2 hf; omega
          by_cases hle : szC (wSig f q) (wExp f q) u pl ≤ 0
          · have hqM := hd.1 ⟨hf, hle⟩
            have he := Lib.hid (hs'.out.1 hqM)
            clear hd hf hqM
            generalize nbC (wNeg f q) (wExp f q) (wSig f q) = cn at *
            generalize clsN f q = cc at *
            generalize szC (wSig f q) (wExp f q) u pl = zz at *
            go_wp2_with ((first | (refine kt hst ta24 rfl rfl ?_; clear hst; intro w hst) | (refine kl hst ta24 rfl ?_) | (refine ka 7 hst tz24 rfl rfl ?_; clear hst; intro b7 w hb7 hst)); try simp only [pz, pn, sz, sc])
            refine wp_region_T 7  hst (by kernel_rfl) ?_; clear hst; intro w hst; (try simp only [List.length_cons, List.length_nil, Nat.reduceAdd, Array.replicate_succ, Array.replicate_zero, List.push_toArray, List.nil_append, List.cons_append])
            refine r0 0 ?_; simp only [pz, pn, sz, sc, P1, P3, P6, Q1]
            refine r0 2 ?_; simp only [pz, pn, sz, sc, P1, P3, P6, Q1]
            refine r0 3 ?_; simp only [pz, pn, sz, sc, P1, P3, P6, Q1]
            refine r0 4 ?_; simp only [pz, pn, sz, sc, P1, P3, P6, Q1]
            refine rl 1 rfl ?_ (ylC tc22); simp only [pz, pn, sz, sc, P1, P3, P6, Q1]
            refine r0 5 ?_; simp only [pz, pn, sz, sc, P1, P3, P6, Q1]
            refine r0 6 ?_; simp only [pz, pn, sz, sc, P1, P3, P6, Q1]
            refine r1 7 ?_; (refine ks hst tc22 rfl rfl ?_; clear hst; intro w hst; (try rw [hP5.out, hcell'.out] at hst)); (try simp only [pz, pn, sz, sc, P1, P3, P6, Q1]); refine re ?_
            refine rd_ ?_
            all_goals
              go_wp2_with fail
              refine wp_region_T 13  hst (by kernel_rfl) ?_; clear hst; intro w hst; (try simp only [List.length_cons, List.length_nil, Nat.reduceAdd, Array.replicate_succ, Array.replicate_zero, List.push_toArray, List.nil_append, List.cons_append])
              refine r0 0 ?_; simp only [pz, pn, sz, sc]
              refine rl 1 rfl ?_ (by first | exact ylA ta24 | exact ylM ta24); simp only [pz, pn, sz, sc]
              refine r1 2 ?_; (refine kf gf64 hst (hcl0) rfl rfl rfl rfl ?_; clear hst; intro w hst); (try simp only [pz, pn, sz, sc]); refine re ?_
              refine r0 3 ?_; simp only [pz, pn, sz, sc]
              refine r0 4 ?_; simp only [pz, pn, sz, sc]
              refine r0 5 ?_; simp only [pz, pn, sz, sc]
              refine rl 6 rfl ?_ (by first | exact ylA ta24 | exact ylM ta24); simp only [pz, pn, sz, sc]
              refine rl 9 rfl ?_ (by first | exact ylA ta61 | exact ylM ta61); simp only [pz, pn, sz, sc]
              refine r1 7 ?_; (try refine wl_guard (by rfl) ?_); (refine kf gf14 hst (hvl0) rfl rfl rfl rfl ?_; clear hst; intro w hst); (try simp only [pz, pn, sz, sc]); refine re ?_
              refine r1 8 ?_; (try refine wl_guard (by rfl) ?_); (refine kN (o := ⟨some 40, _, _, _, _, _⟩) gf26 hst (fun w hst => hof0 w) rfl rfl rfl rfl ?_; clear hst; intro v40 Lg40 w hn40 hR40 hst; (try simp only [List.cons_append, List.nil_append, List.append_nil, List.append_assoc] at hst); obtain ⟨s40, rfl, hb40⟩ := hR40); (try simp only [pz, pn, sz, sc]); refine re ?_
              refine r1 10 ?_; (try refine wl_guard (by rfl) ?_); (refine kg gf39 hst (fun w hst => hsz0 s40 w (hb40.at hst (fun x h => by simp [h])) (hk.out w hst.keeps)) rfl rfl rfl rfl ?_; clear hst; intro w hst); (try simp only [pz, pn, sz, sc]); refine re ?_
              refine r0 11 ?_; simp only [pz, pn, sz, sc]
              refine r0 12 ?_; simp only [pz, pn, sz, sc]
              refine rd_ ?_
              all_goals
                go_wp2_with ((first | (refine kt hst ta24 rfl rfl ?_; clear hst; intro w hst) | (refine kl hst ta24 rfl ?_)); try simp only [pz, pn, sz, sc])
                refine ⟨⟨i, by omega, by have := hiv'.out; first | rfl | (congr 1; omega) | congr 1, ?_⟩, ?_⟩
                · rw [he.out]; exact hst.sub (by repeat (first | exact List.Sublist.refl _ | exact List.nil_sublist _ | exact List.sublist_append_left _ _ | refine List.Sublist.cons_cons _ ?_ | refine List.Sublist.cons _ ?_))
                · have := hiv'.out; (simp [intOf]; try omega)
          · have hqM : ¬ q ≤ M' := fun h => hle (hd.2 h).2
            have he := Lib.hid (hs'.out.2 hqM)
            clear hd hf hqM
            generalize nbC (wNeg f q) (wExp f q) (wSig f q) = cn at *
            generalize clsN f q = cc at *
            generalize szC (wSig f q) (wExp f q) u pl = zz at *
            have hle' : decide (zz ≤ 0) = false := decide_eq_false hle
            clear hle
            go_wp2_with ((first | (refine kt hst ta24 rfl rfl ?_; clear hst; intro w hst) | (refine kl hst ta24 rfl ?_) | (refine ka 7 hst tz24 rfl rfl ?_; clear hst; intro b7 w hb7 hst)); try simp only [pz, pn, sz, sc])
            refine wp_region_T 7  hst (by kernel_rfl) ?_; clear hst; intro w hst; (try simp only [List.length_cons, List.length_nil, Nat.reduceAdd, Array.replicate_succ, Array.replicate_zero, List.push_toArray, List.nil_append, List.cons_append])
            refine r0 0 ?_; simp only [pz, pn, sz, sc, P1, P3, P6, Q1]
            refine r0 2 ?_; simp only [pz, pn, sz, sc, P1, P3, P6, Q1]
            refine r0 3 ?_; simp only [pz, pn, sz, sc, P1, P3, P6, Q1]
            refine r0 4 ?_; simp only [pz, pn, sz, sc, P1, P3, P6, Q1]
            refine rl 1 rfl ?_ (ylC tc22); simp only [pz, pn, sz, sc, P1, P3, P6, Q1]
            refine r0 5 ?_; simp only [pz, pn, sz, sc, P1, P3, P6, Q1]
            refine r0 6 ?_; simp only [pz, pn, sz, sc, P1, P3, P6, Q1]
            refine r1 7 ?_; (refine ks hst tc22 rfl rfl ?_; clear hst; intro w hst; (try rw [hP5.out, hcell'.out] at hst)); (try simp only [pz, pn, sz, sc, P1, P3, P6, Q1]); refine re ?_
            refine rd_ ?_
            all_goals
              go_wp2_with fail
              refine wp_region_T 13  hst (by kernel_rfl) ?_; clear hst; intro w hst; (try simp only [List.length_cons, List.length_nil, Nat.reduceAdd, Array.replicate_succ, Array.replicate_zero, List.push_toArray, List.nil_append, List.cons_append])
              refine r0 0 ?_; simp only [pz, pn, sz, sc]
              refine rl 1 rfl ?_ (by first | exact ylA ta24 | exact ylM ta24); simp only [pz, pn, sz, sc]
              refine r1 2 ?_; (refine kf gf64 hst (hcl0) rfl rfl rfl rfl ?_; clear hst; intro w hst); (try simp only [pz, pn, sz, sc]); refine re ?_
              refine r0 3 ?_; simp only [pz, pn, sz, sc]
              refine r0 4 ?_; simp only [pz, pn, sz, sc]
              refine r0 5 ?_; simp only [pz, pn, sz, sc]
              refine rl 6 rfl ?_ (by first | exact ylA ta24 | exact ylM ta24); simp only [pz, pn, sz, sc]
              refine rl 9 rfl ?_ (by first | exact ylA ta61 | exact ylM ta61); simp only [pz, pn, sz, sc]
              refine r1 7 ?_; (try refine wl_guard (by rfl) ?_); (refine kf gf14 hst (hvl0) rfl rfl rfl rfl ?_; clear hst; intro w hst); (try simp only [pz, pn, sz, sc]); refine re ?_
              refine r1 8 ?_; (try refine wl_guard (by rfl) ?_); (refine kN (o := ⟨some 40, _, _, _, _, _⟩) gf26 hst (fun w hst => hof0 w) rfl rfl rfl rfl ?_; clear hst; intro v40 Lg40 w hn40 hR40 hst; (try simp only [List.cons_append, List.nil_append, List.append_nil, List.append_assoc] at hst); obtain ⟨s40, rfl, hb40⟩ := hR40); (try simp only [pz, pn, sz, sc]); refine re ?_
              refine r1 10 ?_; (try refine wl_guard (by rfl) ?_); (refine kg gf39 hst (fun w hst => hsz0 s40 w (hb40.at hst (fun x h => by simp [h])) (hk.out w hst.keeps)) rfl rfl rfl rfl ?_; clear hst; intro w hst); (try simp only [pz, pn, sz, sc]); refine re ?_
              refine r0 11 ?_; simp only [pz, pn, sz, sc]
              refine r0 12 ?_; simp only [pz, pn, sz, sc]
              refine rd_ ?_
              all_goals
                go_wp2_with fail
                refine ⟨⟨i, by omega, by have := hiv'.out; first | rfl | (congr 1; omega) | congr 1, ?_⟩, ?_⟩
                · rw [he.out]; exact hst.sub (by repeat (first | exact List.Sublist.refl _ | exact List.nil_sublist _ | exact List.sublist_append_left _ _ | refine List.Sublist.cons_cons _ ?_ | refine List.Sublist.cons _ ?_))
                · have := hiv'.out; (simp [intOf]; try omega)
        · have hc4 : decide ((4 : Int) ≤ (clsN f q : Int)) = false := decide_eq_false (fun h => hf ((cls_fin f q).1 (by omega)))
          have hqM : ¬ q ≤ M' := fun h => hf (hd.2 h).1
          have he := Lib.hid (hs'.out.2 hqM)
          clear hd hf hqM hvl0 hof0 hsz0
          generalize clsN f q = cc at *
          go_wp2_with ((first | (refine kt hst ta24 rfl rfl ?_; clear hst; intro w hst) | (refine kl hst ta24 rfl ?_) | (refine ka 7 hst tz24 rfl rfl ?_; clear hst; intro b7 w hb7 hst)); try simp only [pz, pn, sz, sc])
          refine wp_region_T 7  hst (by kernel_rfl) ?_; clear hst; intro w hst; (try simp only [List.length_cons, List.length_nil, Nat.reduceAdd, Array.replicate_succ, Array.replicate_zero, List.push_toArray, List.nil_append, List.cons_append])
          refine r0 0 ?_; simp only [pz, pn, sz, sc, P1, P3, P6, Q1]
          refine r0 2 ?_; simp only [pz, pn, sz, sc, P1, P3, P6, Q1]
          refine r0 3 ?_; simp only [pz, pn, sz, sc, P1, P3, P6, Q1]
          refine r0 4 ?_; simp only [pz, pn, sz, sc, P1, P3, P6, Q1]
          refine rl 1 rfl ?_ (ylC tc22); simp only [pz, pn, sz, sc, P1, P3, P6, Q1]
          refine r0 5 ?_; simp only [pz, pn, sz, sc, P1, P3, P6, Q1]
          refine r0 6 ?_; simp only [pz, pn, sz, sc, P1, P3, P6, Q1]
          refine r1 7 ?_; (refine ks hst tc22 rfl rfl ?_; clear hst; intro w hst; (try rw [hP5.out, hcell'.out] at hst)); (try simp only [pz, pn, sz, sc, P1, P3, P6, Q1]); refine re ?_
          refine rd_ ?_
          all_goals
            go_wp2_with fail
            refine wp_region_T 13  hst (by kernel_rfl) ?_; clear hst; intro w hst; (try simp only [List.length_cons, List.length_nil, Nat.reduceAdd, Array.replicate_succ, Array.replicate_zero, List.push_toArray, List.nil_append, List.cons_append])
            refine r0 0 ?_; simp only [pz, pn, sz, sc]
            refine rl 1 rfl ?_ (by first | exact ylA ta24 | exact ylM ta24); simp only [pz, pn, sz, sc]
            refine r1 2 ?_; (refine kf gf64 hst (hcl0) rfl rfl rfl rfl ?_; clear hst; intro w hst); (try simp only [pz, pn, sz, sc]); refine re ?_
            refine r0 3 ?_; simp only [pz, pn, sz, sc]
            refine r0 4 ?_; simp only [pz, pn, sz, sc]
            refine rp 5 ?_; simp only [pz, pn, sz, sc]
            refine rp 6 ?_; simp only [pz, pn, sz, sc]
            refine rp 7 ?_; simp only [pz, pn, sz, sc]
            refine rp 8 ?_; simp only [pz, pn, sz, sc]
            refine rp 9 ?_; simp only [pz, pn, sz, sc]
            refine rp 10 ?_; simp only [pz, pn, sz, sc]
            refine rp 11 ?_; simp only [pz, pn, sz, sc]
            refine r0 12 ?_; simp only [pz, pn, sz, sc]
            refine rd_ ?_
            all_goals
              go_wp2_with fail
              refine ⟨⟨i, by omega, by have := hiv'.out; first | rfl | (congr 1; omega) | congr 1, ?_⟩, ?_⟩
              · rw [he.out]; exact hst.sub (by repeat (first | exact List.Sublist.refl _ | exact List.nil_sublist _ | exact List.sublist_append_left _ _ | refine List.Sublist.cons_cons _ ?_ | refine List.Sublist.cons _ ?_))
              · have := hiv'.out; (simp [intOf]; try omega)
      · obtain ⟨y1, y0, ylt⟩ := k2 (by omega)
        have e64 : (i : Int) = iv := by have := hiv'.out; omega
        have Q2 : decide ((64 : Int) ≤ iv) = false := decide_eq_false (by omega)
        have P1 : IntKind.u64.wrap ((2 : Int) ^ i) = ((2 ^ i : Nat) : Int) := by
          have a : 2 ^ i ≤ 2 ^ 63 := Nat.pow_le_pow_right (by omega) (by omega)
          rw [show (2 : Int) ^ i = ((2 ^ i : Nat) : Int) by simp, u64_wrap, Nat.mod_eq_of_lt (by rw [B_val]; omega)]
        have P2 : IntKind.u64.wrap ((lb o 0 : Int) + ((2 ^ i : Nat) : Int)) = (lb q 0 : Int) := by rw [← Int.natCast_add, ← y0, u64_wrap, Nat.mod_eq_of_lt (lb_lt _ _)]
        have P6 : IntKind.i64.wrap (i : Int) = (i : Int) := by rw [IntKind.wrap_i64]; omega
        have P5 : IntKind.u64.wrap ((lb o 0 : Int) + (2 : Int) ^ i) = (lb q 0 : Int) := by rw [show (2 : Int) ^ i = ((2 ^ i : Nat) : Int) by simp]; exact P2
        have hcell : (wdc o).setIfInBounds 1 (.int .u64 (lb q 0 : Nat)) = wdc q := by unfold wdc; rw [y1]; rfl
        have hcell' := Lib.hid hcell
        have hP5 := Lib.hid P5
        have hee := e64.symm
        have hii : (i : Int) < 64 := by omega
        clear k1 k2 y1 y0 ylt hcell h64 P5 e64
        by_cases hf : wFin f q = true
        · have hc4 : (4 : Int) ≤ (clsN f q : Int) := by have := (cls_fin f q).2 hf; omega
          by_cases hle : szC (wSig f q) (wExp f q) u pl ≤ 0
          · have hqM := hd.1 ⟨hf, hle⟩
            have he := Lib.hid (hs'.out.1 hqM)
            clear hd hf hqM
            generalize nbC (wNeg f q) (wExp f q) (wSig f q) = cn at *
            generalize clsN f q = cc at *
            generalize szC (wSig f q) (wExp f q) u pl = zz at *
            go_wp2_with ((first | (refine kt hst ta24 rfl rfl ?_; clear hst; intro w hst) | (refine kl hst ta24 rfl ?_) | (refine ka 7 hst tz24 rfl rfl ?_; clear hst; intro b7 w hb7 hst)); try simp only [pz, pn, sz, sc])
            refine wp_region_T 6  hst (by kernel_rfl) ?_; clear hst; intro w hst; (try simp only [List.length_cons, List.length_nil, Nat.reduceAdd, Array.replicate_succ, Array.replicate_zero, List.push_toArray, List.nil_append, List.cons_append])
            refine r0 0 ?_; simp only [pz, pn, sz, sc, P1, P6, hee]
            refine r0 2 ?_; simp only [pz, pn, sz, sc, P1, P6, hee]
            refine r0 3 ?_; simp only [pz, pn, sz, sc, P1, P6, hee]
            refine rl 1 rfl ?_ (ylC tc22); simp only [pz, pn, sz, sc, P1, P6, hee]
            refine r0 4 ?_; simp only [pz, pn, sz, sc, P1, P6, hee]
            refine r0 5 ?_; simp only [pz, pn, sz, sc, P1, P6, hee]
            refine r1 6 ?_; (refine ks hst tc22 rfl rfl ?_; clear hst; intro w hst; (try rw [hP5.out, hcell'.out] at hst)); (try simp only [pz, pn, sz, sc, P1, P6, hee]); refine re ?_
            refine rd_ ?_
            all_goals
              go_wp2_with fail
              refine wp_region_T 13  hst (by kernel_rfl) ?_; clear hst; intro w hst; (try simp only [List.length_cons, List.length_nil, Nat.reduceAdd, Array.replicate_succ, Array.replicate_zero, List.push_toArray, List.nil_append, List.cons_append])
              refine r0 0 ?_; simp only [pz, pn, sz, sc]
              refine rl 1 rfl ?_ (by first | exact ylA ta24 | exact ylM ta24); simp only [pz, pn, sz, sc]
              refine r1 2 ?_; (refine kf gf64 hst (hcl0) rfl rfl rfl rfl ?_; clear hst; intro w hst); (try simp only [pz, pn, sz, sc]); refine re ?_
              refine r0 3 ?_; simp only [pz, pn, sz, sc]
              refine r0 4 ?_; simp only [pz, pn, sz, sc]
              refine r0 5 ?_; simp only [pz, pn, sz, sc]
              refine rl 6 rfl ?_ (by first | exact ylA ta24 | exact ylM ta24); simp only [pz, pn, sz, sc]
              refine rl 9 rfl ?_ (by first | exact ylA ta61 | exact ylM ta61); simp only [pz, pn, sz, sc]
              refine r1 7 ?_; (try refine wl_guard (by rfl) ?_); (refine kf gf14 hst (hvl0) rfl rfl rfl rfl ?_; clear hst; intro w hst); (try simp only [pz, pn, sz, sc]); refine re ?_
              refine r1 8 ?_; (try refine wl_guard (by rfl) ?_); (refine kN (o := ⟨some 40, _, _, _, _, _⟩) gf26 hst (fun w hst => hof0 w) rfl rfl rfl rfl ?_; clear hst; intro v40 Lg40 w hn40 hR40 hst; (try simp only [List.cons_append, List.nil_append, List.append_nil, List.append_assoc] at hst); obtain ⟨s40, rfl, hb40⟩ := hR40); (try simp only [pz, pn, sz, sc]); refine re ?_
              refine r1 10 ?_; (try refine wl_guard (by rfl) ?_); (refine kg gf39 hst (fun w hst => hsz0 s40 w (hb40.at hst (fun x h => by simp [h])) (hk.out w hst.keeps)) rfl rfl rfl rfl ?_; clear hst; intro w hst); (try simp only [pz, pn, sz, sc]); refine re ?_
              refine r0 11 ?_; simp only [pz, pn, sz, sc]
              refine r0 12 ?_; simp only [pz, pn, sz, sc]
              refine rd_ ?_
              all_goals
                go_wp2_with ((first | (refine kt hst ta24 rfl rfl ?_; clear hst; intro w hst) | (refine kl hst ta24 rfl ?_)); try simp only [pz, pn, sz, sc])
                refine ⟨⟨i, by omega, by have := hiv'.out; first | rfl | (congr 1; omega) | congr 1, ?_⟩, ?_⟩
                · rw [he.out]; exact hst.sub (by repeat (first | exact List.Sublist.refl _ | exact List.nil_sublist _ | exact List.sublist_append_left _ _ | refine List.Sublist.cons_cons _ ?_ | refine List.Sublist.cons _ ?_))
                · have := hiv'.out; (simp [intOf]; try omega)
          · have hqM : ¬ q ≤ M' := fun h => hle (hd.2 h).2
            have he := Lib.hid (hs'.out.2 hqM)
            clear hd hf hqM
            generalize nbC (wNeg f q) (wExp f q) (wSig f q) = cn at *
            generalize clsN f q = cc at *
            generalize szC (wSig f q) (wExp f q) u pl = zz at *
            have hle' : decide (zz ≤ 0) = false := decide_eq_false hle
            clear hle
            go_wp2_with ((first | (refine kt hst ta24 rfl rfl ?_; clear hst; intro w hst) | (refine kl hst ta24 rfl ?_) | (refine ka 7 hst tz24 rfl rfl ?_; clear hst; intro b7 w hb7 hst)); try simp only [pz, pn, sz, sc])
            refine wp_region_T 6  hst (by kernel_rfl) ?_; clear hst; intro w hst; (try simp only [List.length_cons, List.length_nil, Nat.reduceAdd, Array.replicate_succ, Array.replicate_zero, List.push_toArray, List.nil_append, List.cons_append])
            refine r0 0 ?_; simp only [pz, pn, sz, sc, P1, P6, hee]
            refine r0 2 ?_; simp only [pz, pn, sz, sc, P1, P6, hee]
            refine r0 3 ?_; simp only [pz, pn, sz, sc, P1, P6, hee]
            refine rl 1 rfl ?_ (ylC tc22); simp only [pz, pn, sz, sc, P1, P6, hee]
            refine r0 4 ?_; simp only [pz, pn, sz, sc, P1, P6, hee]
            refine r0 5 ?_; simp only [pz, pn, sz, sc, P1, P6, hee]
            refine r1 6 ?_; (refine ks hst tc22 rfl rfl ?_; clear hst; intro w hst; (try rw [hP5.out, hcell'.out] at hst)); (try simp only [pz, pn, sz, sc, P1, P6, hee]); refine re ?_
            refine rd_ ?_
            all_goals
              go_wp2_with fail
              refine wp_region_T 13  hst (by kernel_rfl) ?_; clear hst; intro w hst; (try simp only [List.length_cons, List.length_nil, Nat.reduceAdd, Array.replicate_succ, Array.replicate_zero, List.push_toArray, List.nil_append, List.cons_append])
              refine r0 0 ?_; simp only [pz, pn, sz, sc]
              refine rl 1 rfl ?_ (by first | exact ylA ta24 | exact ylM ta24); simp only [pz, pn, sz, sc]
              refine r1 2 ?_; (refine kf gf64 hst (hcl0) rfl rfl rfl rfl ?_; clear hst; intro w hst); (try simp only [pz, pn, sz, sc]); refine re ?_
              refine r0 3 ?_; simp only [pz, pn, sz, sc]
              refine r0 4 ?_; simp only [pz, pn, sz, sc]
              refine r0 5 ?_; simp only [pz, pn, sz, sc]
              refine rl 6 rfl ?_ (by first | exact ylA ta24 | exact ylM ta24); simp only [pz, pn, sz, sc]
              refine rl 9 rfl ?_ (by first | exact ylA ta61 | exact ylM ta61); simp only [pz, pn, sz, sc]
              refine r1 7 ?_; (try refine wl_guard (by rfl) ?_); (refine kf gf14 hst (hvl0) rfl rfl rfl rfl ?_; clear hst; intro w hst); (try simp only [pz, pn, sz, sc]); refine re ?_
              refine r1 8 ?_; (try refine wl_guard (by rfl) ?_); (refine kN (o := ⟨some 40, _, _, _, _, _⟩) gf26 hst (fun w hst => hof0 w) rfl rfl rfl rfl ?_; clear hst; intro v40 Lg40 w hn40 hR40 hst; (try simp only [List.cons_append, List.nil_append, List.append_nil, List.append_assoc] at hst); obtain ⟨s40, rfl, hb40⟩ := hR40); (try simp only [pz, pn, sz, sc]); refine re ?_
              refine r1 10 ?_; (try refine wl_guard (by rfl) ?_); (refine kg gf39 hst (fun w hst => hsz0 s40 w (hb40.at hst (fun x h => by simp [h])) (hk.out w hst.keeps)) rfl rfl rfl rfl ?_; clear hst; intro w hst); (try simp only [pz, pn, sz, sc]); refine re ?_
              refine r0 11 ?_; simp only [pz, pn, sz, sc]
              refine r0 12 ?_; simp only [pz, pn, sz, sc]
              refine rd_ ?_
              all_goals
                go_wp2_with fail
                refine ⟨⟨i, by omega, by have := hiv'.out; first | rfl | (congr 1; omega) | congr 1, ?_⟩, ?_⟩
                · rw [he.out]; exact hst.sub (by repeat (first | exact List.Sublist.refl _ | exact List.nil_sublist _ | exact List.sublist_append_left _ _ | refine List.Sublist.cons_cons _ ?_ | refine List.Sublist.cons _ ?_))
                · have := hiv'.out; (simp [intOf]; try omega)
        · have hc4 : decide ((4 : Int) ≤ (clsN f q : Int)) = false := decide_eq_false (fun h => hf ((cls_fin f q).1 (by omega)))
          have hqM : ¬ q ≤ M' := fun h => hf (hd.2 h).1
          have he := Lib.hid (hs'.out.2 hqM)
          clear hd hf hqM hvl0 hof0 hsz0
          generalize clsN f q = cc at *
          go_wp2_with ((first | (refine kt hst ta24 rfl rfl ?_; clear hst; intro w hst) | (refine kl hst ta24 rfl ?_) | (refine ka 7 hst tz24 rfl rfl ?_; clear hst; intro b7 w hb7 hst)); try simp only [pz, pn, sz, sc])
          refine wp_region_T 6  hst (by kernel_rfl) ?_; clear hst; intro w hst; (try simp only [List.length_cons, List.length_nil, Nat.reduceAdd, Array.replicate_succ, Array.replicate_zero, List.push_toArray, List.nil_append, List.cons_append])
          refine r0 0 ?_; simp only [pz, pn, sz, sc, P1, P6, hee]
          refine r0 2 ?_; simp only [pz, pn, sz, sc, P1, P6, hee]
          refine r0 3 ?_; simp only [pz, pn, sz, sc, P1, P6, hee]
          refine rl 1 rfl ?_ (ylC tc22); simp only [pz, pn, sz, sc, P1, P6, hee]
          refine r0 4 ?_; simp only [pz, pn, sz, sc, P1, P6, hee]
          refine r0 5 ?_; simp only [pz, pn, sz, sc, P1, P6, hee]
          refine r1 6 ?_; (refine ks hst tc22 rfl rfl ?_; clear hst; intro w hst; (try rw [hP5.out, hcell'.out] at hst)); (try simp only [pz, pn, sz, sc, P1, P6, hee]); refine re ?_
          refine rd_ ?_
          all_goals
            go_wp2_with fail
            refine wp_region_T 13  hst (by kernel_rfl) ?_; clear hst; intro w hst; (try simp only [List.length_cons, List.length_nil, Nat.reduceAdd, Array.replicate_succ, Array.replicate_zero, List.push_toArray, List.nil_append, List.cons_append])
            refine r0 0 ?_; simp only [pz, pn, sz, sc]
            refine rl 1 rfl ?_ (by first | exact ylA ta24 | exact ylM ta24); simp only [pz, pn, sz, sc]
            refine r1 2 ?_; (refine kf gf64 hst (hcl0) rfl rfl rfl rfl ?_; clear hst; intro w hst); (try simp only [pz, pn, sz, sc]); refine re ?_
            refine r0 3 ?_; simp only [pz, pn, sz, sc]
            refine r0 4 ?_; simp only [pz, pn, sz, sc]
            refine rp 5 ?_; simp only [pz, pn, sz, sc]
            refine rp 6 ?_; simp only [pz, pn, sz, sc]
            refine rp 7 ?_; simp only [pz, pn, sz, sc]
            refine rp 8 ?_; simp only [pz, pn, sz, sc]
            refine rp 9 ?_; simp only [pz, pn, sz, sc]
            refine rp 10 ?_; simp only [pz, pn, sz, sc]
            refine rp 11 ?_; simp only [pz, pn, sz, sc]
            refine r0 12 ?_; simp only [pz, pn, sz, sc]
            refine rd_ ?_
            all_goals
              go_wp2_with fail
              refine ⟨⟨i, by omega, by have := hiv'.out; first | rfl | (congr 1; omega) | congr 1, ?_⟩, ?_⟩
              · rw [he.out]; exact hst.sub (by repeat (first | exact List.Sublist.refl _ | exact List.nil_sublist _ | exact List.sublist_append_left _ _ | refine List.Sublist.cons_cons _ ?_ | refine List.Sublist.cons _ ?_))
              · have := hiv'.out; (simp [intOf]; try omega)
    · obtain rfl : j = 0 := by omega
      have i1 : ¬ (0 : Int) ≤ ((0 : Nat) : Int) - 1 := by omega
      rw [hzero.out] at hst
      go_wp2_with ((first | (refine kt hst ta24 rfl rfl ?_; clear hst; intro w hst) | (refine kl hst ta24 rfl ?_)); try simp only [pz, pn, sz, sc])
      refine bp_c rfl rfl (la hst ta24) ⟨?_, hst.keeps⟩
      rfl

end Go.Proofs.YtefpoconpeggpaaGreatDoor.Rd
