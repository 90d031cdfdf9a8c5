/- What ref09.Round answers of a number that is known by comparing, with more digits than the precision. -/
import Derived.Test.YtefpoconpeggpaaGreatDoorJ25
namespace Go.Proofs.YtefpoconpeggpaaGreatDoor.Rd
open Go Go.RowKit
set_option linter.unusedVariables false
set_option linter.unusedSimpArgs false
set_option maxRecDepth 100000

theorem bl_small_dl (u k : Nat) (h : u ≤ 2 ^ k) (hk : k ≤ 1000) : dl u ≤ 300 ∧ bl u ≤ 1001 := by
  have h1 : u < 2 ^ (k + 1) := by rw [Nat.pow_succ]; have : 0 < 2 ^ k := Nat.pow_pos (by omega); omega
  have := dl_2pow u (k + 1) h1
  have := bl_le.2 h1
  omega
theorem cut_le (r b p : Nat) (s : Bool) (m : Nat) (ng : Bool) (h : r / 2 ^ b < 2 ^ p) : cutN r b s m ng ≤ 2 ^ p := by
  have := (cutN_le r b s m ng).2
  omega
theorem div_lt_prec (r p b : Nat) (hb : bl r ≤ p + b) : r / 2 ^ b < 2 ^ p := by
  rw [Nat.div_lt_iff_lt_mul (Nat.pow_pos (by omega)), ← Nat.pow_add]
  exact Nat.lt_of_lt_of_le (bl_spec r).1 (Nat.pow_le_pow_right (by omega) hb)
theorem signed_enc (f j s : Nat) (ng : Bool) (h : wEnc f j s < (2 * fE f + 1) * 2 ^ (fP f - 1)) : wEnc f j s % 2 ^ (fB f - 1) + (if ng then 2 ^ (fB f - 1) else 0) = encW f ng j s := by
  rw [Nat.mod_eq_of_lt (Nat.lt_trans h (fin_lt f))]; rfl

set_option maxHeartbeats 16000000 in
theorem ref09_Round (f : Nat) (f1 : 1 ≤ f) (f4 : f ≤ 4) (m : Nat) (m1 : 1 ≤ m) (m5 : m ≤ 5) (ng : Bool) (K N D : Nat) (aN aD : Option Addr) (xN yN xD yD : Nat) (lN lD : Nat) (E : Int) (c : Nat → Int → Int) (e : Int) (r : Nat) (s : Bool) (hK : KnC c e r s) (hb : fP f < bl r) (hK1 : 1 ≤ K) (hK3 : K ≤ 3)
    (hbN : bl N ≤ 32000) (hbD : bl D ≤ 32000) (hbr : bl r ≤ 20000) (hE1 : -100000000 ≤ E) (hE2 : E ≤ 100000000) (he1 : -2000000 ≤ e) (he2 : e ≤ 2000000) (hs1 : e + (bl r : Int) - 1 ≤ ((bl N : Int) + E - bl D) / K + 3) (hs2 : ((bl N : Int) + E - bl D) / K + 3 ≤ 20000000) (res fl : Nat) (hres : rndR f m ng e r s = (res, fl)) (w0 : World)
    (hC : CmpIs (RlV ng K (.slice aN xN yN) (.slice aD xD yD) E) c w0) (hN : BigAt w0 (.slice aN xN yN) lN N) (hD : BigAt w0 (.slice aD xD yD) lD D) :
    GivesAt Tryz.prog 21 #[.int .i64 f, .int .i64 m, RlV ng K (.slice aN xN yN) (.slice aD xD yD) E] (.tuple #[Wd res, .int .i64 fl]) w0 := by
  have hst := St.start [] w0
  have hP := fP_in f
  have hEl := fE_in f
  have hr0 : r ≠ 0 := fun h => by rw [h, bl_zero] at hb; omega
  have hpr := ref05_Prec f f1 f4
  have hem := ref05_EMax f f1 f4
  have hei := ref05_EMin f f1 f4
  have htop := Lib.hid (fun w (k : Keeps [] w0 w) => ref09_Top ng K N D (.slice aN xN yN) (.slice aD xD yD) lN lD E c e r s hK hr0 hK1 hK3 hbN hbD (by omega) hE1 hE2 (by omega) (by omega) hs1 hs2 w (hC.keep k) (hN.keep k) (hD.keep k))
  obtain ⟨b, hbb⟩ : ∃ b, bl r - fP f = b + 1 := ⟨bl r - fP f - 1, by omega⟩
  obtain ⟨pl, hpl⟩ : ∃ pl : Int, pl = e + ((b + 1 : Nat) : Int) := ⟨_, rfl⟩
  have hat := Lib.hid (fun w (k : Keeps [] w0 w) => ref09_At ng K aN aD xN yN xD yD E c e r s hK b (fP f) (by omega) (by omega) (by omega) (div_lt_prec r (fP f) (b + 1) (by omega)) pl hpl (by omega) (by omega) m m1 m5 w (hC.keep k))
  have huP := cut_le r (b + 1) (fP f) s m ng (div_lt_prec r (fP f) (b + 1) (by omega))
  obtain ⟨hud, hub⟩ := bl_small_dl _ (fP f) huP (by omega)
  have hrt : rTop f m ng e r s = pl + (bl (cutN r (b + 1) s m ng) : Int) - 1 := by unfold rTop; rw [hbb]; omega
  obtain ⟨T, hT⟩ : ∃ T : Int, T = e + (bl r : Int) - 1 := ⟨_, rfl⟩
  rw [← hT] at htop
  obtain ⟨tp, htp⟩ : ∃ tp : Int, tp = rTop f m ng e r s := ⟨_, rfl⟩
  have E1 : T - (fP f : Int) + 1 = pl := by omega
  have T1 : -3000000 ≤ T := by omega
  have T2 : T ≤ 3000000 := by omega
  have pl1 : -3000000 ≤ pl := by omega
  have pl2 : pl ≤ 3000000 := by omega
  have hbn := build_num
  unfold RlV at *
  by_cases hov : (fE f : Int) < tp
  · -- beyond the greatest one
    have hr1 := rndR_over (f := f) (m := m) (ng := ng) (e := e) (r := r) (s := s) (by rw [← htp]; exact hov)
    rw [hres] at hr1
    obtain ⟨rfl, rfl⟩ := Prod.mk.inj hr1
    have hinf := ref05_Inf f f1 f4 ng
    have hmax := ref05_Max f f1 f4 ng
    have hlen := fun v w h => ref01_Len v (dl (cutN r (b + 1) s m ng)) (cutN r (b + 1) s m ng) w h
    rw [hrt] at htp
    have E2 : pl + (bl (cutN r (b + 1) s m ng) : Int) - 1 = tp := htp.symm
    have hov' : decide ((fE f : Int) < tp) = true := decide_eq_true hov
    clear hr1 hres hC hN hD hK hs1 hs2 hE1 hE2 he1 he2 hbN hbD hbr hK1 hK3 hb hr0 hbb hpl huP hud hrt hT htp hov
    generalize decide (restN r (b + 1) s ≠ 0) = ix at *
    generalize cutN r (b + 1) s m ng = u at *
    generalize bl u = ku at *
    have hm := Lib.hid (show m = 1 ∨ m = 2 ∨ m = 3 ∨ m = 4 ∨ m = 5 by omega)
    clear m1 m5
    have hover := Lib.hid (show (m = 1 ∨ m = 2 → overW f m ng = infW f ng) ∧ (m = 3 → overW f m ng = maxW f ng) ∧ (m = 4 ∧ ng = false → overW f m ng = infW f ng) ∧ (m = 4 ∧ ng = true → overW f m ng = maxW f ng) ∧ (m = 5 ∧ ng = false → overW f m ng = maxW f ng) ∧ (m = 5 ∧ ng = true → overW f m ng = infW f ng) from by
      refine ⟨fun h => ?_, fun h => ?_, fun h => ?_, fun h => ?_, fun h => ?_, fun h => ?_⟩
      · unfold overW infW; rw [if_pos (by omega)]
      · subst h; rfl
      · obtain ⟨rfl, rfl⟩ := h; rfl
      · obtain ⟨rfl, rfl⟩ := h; rfl
      · obtain ⟨rfl, rfl⟩ := h; rfl
      · obtain ⟨rfl, rfl⟩ := h; rfl)
    generalize infW f ng = inf at *
    generalize maxW f ng = mx at *
    generalize overW f m ng = ov at *
    generalize fP f = p at *
    generalize fE f = Em at *
    obtain ⟨g1, g2, g3, g4, g5, g6⟩ := hover.out
    obtain rfl | rfl | rfl | h45 := (show m = 1 ∨ m = 2 ∨ m = 3 ∨ (m = 4 ∨ m = 5) from hm.out)
    · obtain rfl := g1 (by simp)
      clear hover hm g1 g2 g3 g4 g5 g6
      go_enter Tryz.func21, Tryz.ntmps21
      go_wp2_with ((first | (refine kf gf25 hst (hpr) rfl rfl rfl rfl ?_; clear hst; intro w hst) | (refine kg gf49 hst (fun w hst => htop.out w hst.keeps) rfl rfl rfl rfl ?_; clear hst; intro w hst) | (refine kN (o := ⟨some 27, _, _, _, _, _⟩) gf50 hst (fun w hst => hat.out w hst.keeps) rfl rfl rfl rfl ?_; clear hst; intro v27 Lg27 w hn27 hR27 hst; (try simp only [List.cons_append, List.nil_append, List.append_nil, List.append_assoc] at hst); obtain ⟨s27, rfl, hb27⟩ := hR27) | (refine kg gf20 hst (fun w hst => hlen _ w (hb27.at hst (fun x h => by simp [h]))) rfl rfl rfl rfl ?_; clear hst; intro w hst) | (refine kf gf51 hst (hem) rfl rfl rfl rfl ?_; clear hst; intro w hst) | (refine kf gf52 hst (hinf) rfl rfl rfl rfl ?_; clear hst; intro w hst) | (refine kb 5 hst rfl rfl ?_; clear hst; intro b5 w hb5 hst) | (refine ka 6 hst tz24 rfl rfl ?_; clear hst; intro b6 w hb6 hst) | (refine kl hst ta41 rfl ?_) | (refine kc hst tc4 rfl ?_) | (refine kt hst ta24 rfl rfl ?_; clear hst; intro w hst)); try simp only [pz, pn, sz, sc])
      refine bp_ct rfl rfl (la hst ta24) (by rfl) ⟨?_, hst.keeps⟩
      rfl
    · obtain rfl := g1 (by simp)
      clear hover hm g1 g2 g3 g4 g5 g6
      go_enter Tryz.func21, Tryz.ntmps21
      go_wp2_with ((first | (refine kf gf25 hst (hpr) rfl rfl rfl rfl ?_; clear hst; intro w hst) | (refine kg gf49 hst (fun w hst => htop.out w hst.keeps) rfl rfl rfl rfl ?_; clear hst; intro w hst) | (refine kN (o := ⟨some 27, _, _, _, _, _⟩) gf50 hst (fun w hst => hat.out w hst.keeps) rfl rfl rfl rfl ?_; clear hst; intro v27 Lg27 w hn27 hR27 hst; (try simp only [List.cons_append, List.nil_append, List.append_nil, List.append_assoc] at hst); obtain ⟨s27, rfl, hb27⟩ := hR27) | (refine kg gf20 hst (fun w hst => hlen _ w (hb27.at hst (fun x h => by simp [h]))) rfl rfl rfl rfl ?_; clear hst; intro w hst) | (refine kf gf51 hst (hem) rfl rfl rfl rfl ?_; clear hst; intro w hst) | (refine kf gf52 hst (hinf) rfl rfl rfl rfl ?_; clear hst; intro w hst) | (refine wl_guard (by rfl) ?_) | (refine kb 5 hst rfl rfl ?_; clear hst; intro b5 w hb5 hst) | (refine ka 6 hst tz24 rfl rfl ?_; clear hst; intro b6 w hb6 hst) | (refine kl hst ta41 rfl ?_) | (refine kc hst tc4 rfl ?_) | (refine kt hst ta24 rfl rfl ?_; clear hst; intro w hst)); try simp only [pz, pn, sz, sc])
      refine bp_ct rfl rfl (la hst ta24) (by rfl) ⟨?_, hst.keeps⟩
      rfl
    · obtain rfl := g2 rfl
      clear hover hm g1 g2 g3 g4 g5 g6
      go_enter Tryz.func21, Tryz.ntmps21
      go_wp2_with ((first | (refine kf gf25 hst (hpr) rfl rfl rfl rfl ?_; clear hst; intro w hst) | (refine kg gf49 hst (fun w hst => htop.out w hst.keeps) rfl rfl rfl rfl ?_; clear hst; intro w hst) | (refine kN (o := ⟨some 27, _, _, _, _, _⟩) gf50 hst (fun w hst => hat.out w hst.keeps) rfl rfl rfl rfl ?_; clear hst; intro v27 Lg27 w hn27 hR27 hst; (try simp only [List.cons_append, List.nil_append, List.append_nil, List.append_assoc] at hst); obtain ⟨s27, rfl, hb27⟩ := hR27) | (refine kg gf20 hst (fun w hst => hlen _ w (hb27.at hst (fun x h => by simp [h]))) rfl rfl rfl rfl ?_; clear hst; intro w hst) | (refine kf gf51 hst (hem) rfl rfl rfl rfl ?_; clear hst; intro w hst) | (refine kf gf53 hst (hmax) rfl rfl rfl rfl ?_; clear hst; intro w hst) | (refine wl_guard (by rfl) ?_) | (refine kb 5 hst rfl rfl ?_; clear hst; intro b5 w hb5 hst) | (refine ka 6 hst tz24 rfl rfl ?_; clear hst; intro b6 w hb6 hst) | (refine kl hst ta41 rfl ?_) | (refine kc hst tc4 rfl ?_) | (refine kt hst ta24 rfl rfl ?_; clear hst; intro w hst)); try simp only [pz, pn, sz, sc])
      refine bp_ct rfl rfl (la hst ta24) (by rfl) ⟨?_, hst.keeps⟩
      rfl
    · cases ng
      all_goals
        rcases h45 with rfl | rfl
        all_goals
          first | obtain rfl := g3 ⟨rfl, rfl⟩ | obtain rfl := g4 ⟨rfl, rfl⟩ | obtain rfl := g5 ⟨rfl, rfl⟩ | obtain rfl := g6 ⟨rfl, rfl⟩
          clear hover hm g1 g2 g3 g4 g5 g6
          go_enter Tryz.func21, Tryz.ntmps21
          go_wp2_with ((first | (refine kf gf25 hst (hpr) rfl rfl rfl rfl ?_; clear hst; intro w hst) | (refine kg gf49 hst (fun w hst => htop.out w hst.keeps) rfl rfl rfl rfl ?_; clear hst; intro w hst) | (refine kN (o := ⟨some 27, _, _, _, _, _⟩) gf50 hst (fun w hst => hat.out w hst.keeps) rfl rfl rfl rfl ?_; clear hst; intro v27 Lg27 w hn27 hR27 hst; (try simp only [List.cons_append, List.nil_append, List.append_nil, List.append_assoc] at hst); obtain ⟨s27, rfl, hb27⟩ := hR27) | (refine kg gf20 hst (fun w hst => hlen _ w (hb27.at hst (fun x h => by simp [h]))) rfl rfl rfl rfl ?_; clear hst; intro w hst) | (refine kf gf51 hst (hem) rfl rfl rfl rfl ?_; clear hst; intro w hst) | (refine kf gf52 hst (hinf) rfl rfl rfl rfl ?_; clear hst; intro w hst) | (refine kf gf53 hst (hmax) rfl rfl rfl rfl ?_; clear hst; intro w hst) | (refine wl_guard (by rfl) ?_) | (refine kb 5 hst rfl rfl ?_; clear hst; intro b5 w hb5 hst) | (refine ka 6 hst tz24 rfl rfl ?_; clear hst; intro b6 w hb6 hst) | (refine kl hst ta41 rfl ?_) | (refine kc hst tc4 rfl ?_) | (refine kt hst ta24 rfl rfl ?_; clear hst; intro w hst)); try simp only [pz, pn, sz, sc])
          refine bp_ct rfl rfl (la hst ta24) (by rfl) ⟨?_, hst.keeps⟩
          rfl
  · have hov' : decide ((fE f : Int) < tp) = false := decide_eq_false hov
    have hlen := fun v w h => ref01_Len v (dl (cutN r (b + 1) s m ng)) (cutN r (b + 1) s m ng) w h
    have hM2 : M2 = 2 ^ 128 := by decide
    by_cases hlo : tp < 1 - (fE f : Int)
    · -- below the normal ones
      have hr1 := rndR_low (f := f) (m := m) (ng := ng) (e := e) (r := r) (s := s) (by rw [← htp]; exact hlo)
      rw [hres] at hr1
      obtain ⟨e1, e2⟩ := Prod.mk.inj hr1
      have hbu : fP f ≤ bl (cutN r (b + 1) s m ng) := by
        have h := cutN_range r (fP f) s m ng (by omega) hb
        rw [hbb] at h
        rcases Nat.lt_or_ge (bl (cutN r (b + 1) s m ng)) (fP f) with h' | h'
        · have := bl_le.1 (show bl (cutN r (b + 1) s m ng) ≤ fP f - 1 by omega); omega
        · exact h'
      obtain ⟨d, hd⟩ : ∃ d, (2 - (fE f : Int) - fP f - e).toNat = d + 1 := ⟨(2 - (fE f : Int) - fP f - e).toNat - 1, by omega⟩
      rw [hd] at e1 e2
      obtain ⟨p2, hp2⟩ : ∃ p2 : Int, p2 = e + ((d + 1 : Nat) : Int) := ⟨_, rfl⟩
      have hrd := div_lt_prec r (fP f) (d + 1) (by omega)
      have hat2 := Lib.hid (fun w (k : Keeps [] w0 w) => ref09_At ng K aN aD xN yN xD yD E c e r s hK d (fP f) (by omega) (by omega) (by omega) hrd p2 hp2 (by omega) (by omega) m m1 m5 w (hC.keep k))
      have hv := cut_le r (d + 1) (fP f) s m ng hrd
      obtain ⟨hvd, hvb⟩ := bl_small_dl _ (fP f) hv (by omega)
      have hp2e : p2 = eLo f := by unfold eLo; omega
      have hfi := fun a l x w h => ref07_Find f f1 f4 (.slice a l x) (dl (cutN r (d + 1) s m ng)) (cutN r (d + 1) s m ng) false p2 _ (hp2e ▸ rnd_find0 f _ hv) (by omega) (by omega) (by omega) (by omega) w h
      have hwf := (wEnc_V0 f _ hv).1
      have hsg := ref06_Signed f f1 f4 (wEnc f 0 (cutN r (d + 1) s m ng)) (by rw [hM2]; exact Nat.lt_trans hwf (Nat.lt_of_lt_of_le (fin_lt f) (Nat.pow_le_pow_right (by omega) (by have := fB_in f; omega)))) ng
      rw [signed_enc f 0 _ ng hwf, ← e1] at hsg
      rw [hrt] at htp
      have E2 : pl + (bl (cutN r (b + 1) s m ng) : Int) - 1 = tp := htp.symm
      have hlo' : decide (tp < 1 - (fE f : Int)) = true := decide_eq_true hlo
      have E3 : 1 - (fE f : Int) - (fP f : Int) + 1 = p2 := by omega
      have q1 : -3000000 ≤ p2 := by omega
      have q2 : p2 ≤ 3000000 := by omega
      have tp1 : -3000000 ≤ tp := by omega
      have tp2 : tp ≤ 3000000 := by omega
      clear hr1 hres hC hN hD hK hs1 hs2 hE1 hE2 he1 he2 hbN hbD hbr hK1 hK3 hb hr0 hbb hpl huP hud hrt hT htp hov hlo hrd hv hvd hvb hbu hd hp2 hp2e hwf e1 hM2
      generalize wEnc f 0 (cutN r (d + 1) s m ng) = wf at *
      generalize hux : decide (restN r (b + 1) s ≠ 0) = ux at *
      clear hux
      generalize cutN r (d + 1) s m ng = u2 at *
      generalize cutN r (b + 1) s m ng = u at *
      generalize bl u = ku at *
      generalize fP f = p at *
      generalize fE f = Em at *
      by_cases hix : restN r (d + 1) s = 0
      · rw [if_pos hix] at e2
        subst e2
        rw [show decide (restN r (d + 1) s ≠ 0) = false by simpa using hix] at hat2
        clear hix
        go_enter Tryz.func21, Tryz.ntmps21
        go_wp2_with ((first | (refine kf gf25 hst (hpr) rfl rfl rfl rfl ?_; clear hst; intro w hst) | (refine kg gf49 hst (fun w hst => htop.out w hst.keeps) rfl rfl rfl rfl ?_; clear hst; intro w hst) | (refine kN (o := ⟨some 27, _, _, _, _, _⟩) gf50 hst (fun w hst => hat.out w hst.keeps) rfl rfl rfl rfl ?_; clear hst; intro v27 Lg27 w hn27 hR27 hst; (try simp only [List.cons_append, List.nil_append, List.append_nil, List.append_assoc] at hst); obtain ⟨s27, rfl, hb27⟩ := hR27) | (refine kg gf20 hst (fun w hst => hlen _ w (hb27.at hst (fun x h => by simp [h]))) rfl rfl rfl rfl ?_; clear hst; intro w hst) | (refine kf gf51 hst (hem) rfl rfl rfl rfl ?_; clear hst; intro w hst) | (refine kf gf37 hst (hei) rfl rfl rfl rfl ?_; clear hst; intro w hst) | (refine kN (o := ⟨some 84, _, _, _, _, _⟩) gf50 hst (fun w hst => hat2.out w hst.keeps) rfl rfl rfl rfl ?_; clear hst; intro v84 Lg84 w hn84 hR84 hst; (try simp only [List.cons_append, List.nil_append, List.append_nil, List.append_assoc] at hst); obtain ⟨s84, rfl, hb84⟩ := hR84; obtain ⟨a84, x84, y84, rfl⟩ := hb84.slice) | (refine kB (fun w => hbn _ _ _ _ w) rfl ?_) | (refine kg gf54 hst (fun w hst => hfi _ _ _ w (hb84.at hst (fun x h => by simp [h]))) rfl rfl rfl rfl ?_; clear hst; intro w hst) | (refine kf gf55 hst (hsg) rfl rfl rfl rfl ?_; clear hst; intro w hst) | (refine kb 5 hst rfl rfl ?_; clear hst; intro b5 w hb5 hst) | (refine ka 6 hst tz24 rfl rfl ?_; clear hst; intro b6 w hb6 hst) | (refine kl hst ta41 rfl ?_) | (refine kc hst tc4 rfl ?_) | (refine kt hst ta24 rfl rfl ?_; clear hst; intro w hst) | (refine ka 14 hst tz24 rfl rfl ?_; clear hst; intro b14 w hb14 hst) | (refine kl hst ta24 rfl ?_)); try simp only [pz, pn, sz, sc])
        refine bp_ct rfl rfl (la hst ta24) (by rfl) ⟨?_, hst.keeps⟩
        rfl
      · rw [if_neg hix] at e2
        subst e2
        rw [show decide (restN r (d + 1) s ≠ 0) = true by simpa using hix] at hat2
        clear hix
        go_enter Tryz.func21, Tryz.ntmps21
        go_wp2_with ((first | (refine kf gf25 hst (hpr) rfl rfl rfl rfl ?_; clear hst; intro w hst) | (refine kg gf49 hst (fun w hst => htop.out w hst.keeps) rfl rfl rfl rfl ?_; clear hst; intro w hst) | (refine kN (o := ⟨some 27, _, _, _, _, _⟩) gf50 hst (fun w hst => hat.out w hst.keeps) rfl rfl rfl rfl ?_; clear hst; intro v27 Lg27 w hn27 hR27 hst; (try simp only [List.cons_append, List.nil_append, List.append_nil, List.append_assoc] at hst); obtain ⟨s27, rfl, hb27⟩ := hR27) | (refine kg gf20 hst (fun w hst => hlen _ w (hb27.at hst (fun x h => by simp [h]))) rfl rfl rfl rfl ?_; clear hst; intro w hst) | (refine kf gf51 hst (hem) rfl rfl rfl rfl ?_; clear hst; intro w hst) | (refine kf gf37 hst (hei) rfl rfl rfl rfl ?_; clear hst; intro w hst) | (refine kN (o := ⟨some 84, _, _, _, _, _⟩) gf50 hst (fun w hst => hat2.out w hst.keeps) rfl rfl rfl rfl ?_; clear hst; intro v84 Lg84 w hn84 hR84 hst; (try simp only [List.cons_append, List.nil_append, List.append_nil, List.append_assoc] at hst); obtain ⟨s84, rfl, hb84⟩ := hR84; obtain ⟨a84, x84, y84, rfl⟩ := hb84.slice) | (refine kB (fun w => hbn _ _ _ _ w) rfl ?_) | (refine kg gf54 hst (fun w hst => hfi _ _ _ w (hb84.at hst (fun x h => by simp [h]))) rfl rfl rfl rfl ?_; clear hst; intro w hst) | (refine kf gf55 hst (hsg) rfl rfl rfl rfl ?_; clear hst; intro w hst) | (refine kb 5 hst rfl rfl ?_; clear hst; intro b5 w hb5 hst) | (refine ka 6 hst tz24 rfl rfl ?_; clear hst; intro b6 w hb6 hst) | (refine kl hst ta41 rfl ?_) | (refine kc hst tc4 rfl ?_) | (refine kt hst ta24 rfl rfl ?_; clear hst; intro w hst) | (refine ka 14 hst tz24 rfl rfl ?_; clear hst; intro b14 w hb14 hst) | (refine kl hst ta24 rfl ?_)); try simp only [pz, pn, sz, sc])
        refine bp_ct rfl rfl (la hst ta24) (by rfl) ⟨?_, hst.keeps⟩
        rfl
    · -- among the normal ones
      have h1' : 1 - (fE f : Int) ≤ tp := by omega
      have h2' : tp ≤ (fE f : Int) := by omega
      have hr1 := rndR_in (f := f) (m := m) (ng := ng) (e := e) (r := r) (s := s) (by rw [← htp]; exact h1') (by rw [← htp]; exact h2')
      rw [hres, ← htp, hbb] at hr1
      obtain ⟨e1, e2⟩ := Prod.mk.inj hr1
      have hif := rnd_find f m ng e r s hb tp htp h1' h2'
      rw [hbb, ← hpl] at hif
      have hwf := hif.1
      have hfi := fun a l x w h => ref07_Find f f1 f4 (.slice a l x) (dl (cutN r (b + 1) s m ng)) (cutN r (b + 1) s m ng) false pl _ hif (by omega) (by omega) (by omega) (by omega) w h
      have hsg := ref06_Signed f f1 f4 _ (show wEnc f (tp - (1 - (fE f : Int))).toNat (cutN r (b + 1) s m ng * 2 ^ fP f / 2 ^ bl (cutN r (b + 1) s m ng)) < M2 by rw [hM2]; exact Nat.lt_trans hwf (Nat.lt_of_lt_of_le (fin_lt f) (Nat.pow_le_pow_right (by omega) (by have := fB_in f; omega)))) ng
      rw [signed_enc f _ _ ng hwf, ← e1] at hsg
      rw [hrt] at htp
      have E2 : pl + (bl (cutN r (b + 1) s m ng) : Int) - 1 = tp := htp.symm
      have hlo' : decide (tp < 1 - (fE f : Int)) = false := decide_eq_false hlo
      have tp1 : -3000000 ≤ tp := by omega
      have tp2 : tp ≤ 3000000 := by omega
      clear hr1 hres hC hN hD hK hs1 hs2 hE1 hE2 he1 he2 hbN hbD hbr hK1 hK3 hb hr0 hbb hpl huP hud hrt hT htp hov hlo hif hwf e1 hM2 h1' h2'
      generalize wEnc f (tp - (1 - (fE f : Int))).toNat (cutN r (b + 1) s m ng * 2 ^ fP f / 2 ^ bl (cutN r (b + 1) s m ng)) = wf at *
      generalize cutN r (b + 1) s m ng = u at *
      generalize bl u = ku at *
      generalize fP f = p at *
      generalize fE f = Em at *
      by_cases hix : restN r (b + 1) s = 0
      · rw [if_pos hix] at e2
        subst e2
        rw [show decide (restN r (b + 1) s ≠ 0) = false by simpa using hix] at hat
        clear hix
        go_enter Tryz.func21, Tryz.ntmps21
        go_wp2_with ((first | (refine kf gf25 hst (hpr) rfl rfl rfl rfl ?_; clear hst; intro w hst) | (refine kg gf49 hst (fun w hst => htop.out w hst.keeps) rfl rfl rfl rfl ?_; clear hst; intro w hst) | (refine kN (o := ⟨some 27, _, _, _, _, _⟩) gf50 hst (fun w hst => hat.out w hst.keeps) rfl rfl rfl rfl ?_; clear hst; intro v27 Lg27 w hn27 hR27 hst; (try simp only [List.cons_append, List.nil_append, List.append_nil, List.append_assoc] at hst); obtain ⟨s27, rfl, hb27⟩ := hR27; obtain ⟨a27, x27, y27, rfl⟩ := hb27.slice) | (refine kg gf20 hst (fun w hst => hlen _ w (hb27.at hst (fun x h => by simp [h]))) rfl rfl rfl rfl ?_; clear hst; intro w hst) | (refine kf gf51 hst (hem) rfl rfl rfl rfl ?_; clear hst; intro w hst) | (refine kf gf37 hst (hei) rfl rfl rfl rfl ?_; clear hst; intro w hst) | (refine kB (fun w => hbn _ _ _ _ w) rfl ?_) | (refine kg gf54 hst (fun w hst => hfi _ _ _ w (hb27.at hst (fun x h => by simp [h]))) rfl rfl rfl rfl ?_; clear hst; intro w hst) | (refine kf gf55 hst (hsg) rfl rfl rfl rfl ?_; clear hst; intro w hst) | (refine kb 5 hst rfl rfl ?_; clear hst; intro b5 w hb5 hst) | (refine ka 6 hst tz24 rfl rfl ?_; clear hst; intro b6 w hb6 hst) | (refine kl hst ta41 rfl ?_) | (refine kc hst tc4 rfl ?_) | (refine kt hst ta24 rfl rfl ?_; clear hst; intro w hst) | (refine ka 14 hst tz24 rfl rfl ?_; clear hst; intro b14 w hb14 hst) | (refine kl hst ta24 rfl ?_)); try simp only [pz, pn, sz, sc])
        refine bp_ct rfl rfl (la hst ta24) (by rfl) ⟨?_, hst.keeps⟩
        rfl
      · rw [if_neg hix] at e2
        subst e2
        rw [show decide (restN r (b + 1) s ≠ 0) = true by simpa using hix] at hat
        clear hix
        go_enter Tryz.func21, Tryz.ntmps21
        go_wp2_with ((first | (refine kf gf25 hst (hpr) rfl rfl rfl rfl ?_; clear hst; intro w hst) | (refine kg gf49 hst (fun w hst => htop.out w hst.keeps) rfl rfl rfl rfl ?_; clear hst; intro w hst) | (refine kN (o := ⟨some 27, _, _, _, _, _⟩) gf50 hst (fun w hst => hat.out w hst.keeps) rfl rfl rfl rfl ?_; clear hst; intro v27 Lg27 w hn27 hR27 hst; (try simp only [List.cons_append, List.nil_append, List.append_nil, List.append_assoc] at hst); obtain ⟨s27, rfl, hb27⟩ := hR27; obtain ⟨a27, x27, y27, rfl⟩ := hb27.slice) | (refine kg gf20 hst (fun w hst => hlen _ w (hb27.at hst (fun x h => by simp [h]))) rfl rfl rfl rfl ?_; clear hst; intro w hst) | (refine kf gf51 hst (hem) rfl rfl rfl rfl ?_; clear hst; intro w hst) | (refine kf gf37 hst (hei) rfl rfl rfl rfl ?_; clear hst; intro w hst) | (refine kB (fun w => hbn _ _ _ _ w) rfl ?_) | (refine kg gf54 hst (fun w hst => hfi _ _ _ w (hb27.at hst (fun x h => by simp [h]))) rfl rfl rfl rfl ?_; clear hst; intro w hst) | (refine kf gf55 hst (hsg) rfl rfl rfl rfl ?_; clear hst; intro w hst) | (refine kb 5 hst rfl rfl ?_; clear hst; intro b5 w hb5 hst) | (refine ka 6 hst tz24 rfl rfl ?_; clear hst; intro b6 w hb6 hst) | (refine kl hst ta41 rfl ?_) | (refine kc hst tc4 rfl ?_) | (refine kt hst ta24 rfl rfl ?_; clear hst; intro w hst) | (refine ka 14 hst tz24 rfl rfl ?_; clear hst; intro b14 w hb14 hst) | (refine kl hst ta24 rfl ?_)); try simp only [pz, pn, sz, sc])
        refine bp_ct rfl rfl (la hst ta24) (by rfl) ⟨?_, hst.keeps⟩
        rfl

end Go.Proofs.YtefpoconpeggpaaGreatDoor.Rd
