/- What pack.Round answers, of any number. -/
import Derived.Test.YtefpoconpeggpaaGreatDoorL29
import Derived.Test.YtefpoconpeggpaaGreatDoorL23
namespace Go.Proofs.YtefpoconpeggpaaGreatDoor.Rd
open Go Go.RowKit
set_option linter.unusedVariables false
set_option linter.unusedSimpArgs false
set_option maxRecDepth 100000

theorem norm_all (p u : Nat) (h0 : u ≠ 0) (h : u ≤ 2 ^ p) (hp : 1 ≤ p) (hp2 : p ≤ 500) : u * 2 ^ clampN ((p : Int) - (bl u : Int)) % M / 2 ^ clampN (-((p : Int) - (bl u : Int))) = u * 2 ^ p / 2 ^ bl u ∧ u * 2 ^ p / 2 ^ bl u < 2 ^ p ∧ bl u ≤ p + 1 := by
  rcases Nat.lt_or_ge u (2 ^ (p - 1)) with h1 | h1
  · have hb : bl u ≤ p - 1 := bl_le.2 h1
    have hlt := (bl_spec u).1
    have e1 : clampN ((p : Int) - (bl u : Int)) = p - bl u := by unfold clampN; rw [if_neg (by omega), if_neg (by omega)]; omega
    have e2 : clampN (-((p : Int) - (bl u : Int))) = 0 := by unfold clampN; rw [if_pos (by omega)]
    have e3 : u * 2 ^ p / 2 ^ bl u = u * 2 ^ (p - bl u) := by
      obtain ⟨d, hd⟩ : ∃ d, p = d + bl u := ⟨p - bl u, by omega⟩
      rw [show p - bl u = d by omega]
      conv => lhs; rw [hd, Nat.pow_add, ← Nat.mul_assoc]
      rw [Nat.mul_div_cancel _ (Nat.pow_pos (by omega))]
    have e4 : u * 2 ^ (p - bl u) < 2 ^ p := by
      have := Nat.mul_lt_mul_of_pos_right hlt (show 0 < 2 ^ (p - bl u) from Nat.pow_pos (by omega))
      rw [← Nat.pow_add, show bl u + (p - bl u) = p by omega] at this
      exact this
    rw [e1, e2, e3, Nat.pow_zero, Nat.div_one, Nat.mod_eq_of_lt (Nat.lt_trans e4 (small_M2 p hp2))]
    exact ⟨rfl, e4, by omega⟩
  · obtain ⟨a, b, _, d⟩ := norm_sig p u h1 h hp hp2
    exact ⟨a, b, d⟩

/-- What is kept of a number that isn't 0: at most one digit more than the precision, and that just as a power of 2. -/
theorem rDig_in (p m : Nat) (ng : Bool) (e : Int) (n : Nat) (more : Bool) (hp : 1 ≤ p) (h0 : n ≠ 0) : (rDig p m ng e n more).1 ≠ 0 ∧ (rDig p m ng e n more).1 ≤ 2 ^ p ∧ e ≤ (rDig p m ng e n more).2.1 ∧ (rDig p m ng e n more).2.1 ≤ e + bl n ∧ (p < bl n → (rDig p m ng e n more).2.1 = e + (bl n - p : Nat) ∧ p ≤ bl (rDig p m ng e n more).1) ∧ (bl n ≤ p → (rDig p m ng e n more).2.1 = e ∧ (rDig p m ng e n more).1 = n) := by
  unfold rDig
  by_cases hb : bl n ≤ p
  · rw [if_pos hb]
    refine ⟨h0, Nat.le_of_lt (Nat.lt_of_lt_of_le (bl_spec n).1 (Nat.pow_le_pow_right (by omega) hb)), Int.le_refl _, by dsimp only; omega, fun h => by omega, fun _ => ⟨rfl, rfl⟩⟩
  · rw [if_neg hb]
    obtain ⟨c1, c2⟩ := cutN_range n p more m ng (by omega) (by omega)
    have hp1 : 0 < 2 ^ (p - 1) := Nat.pow_pos (by omega)
    dsimp only
    refine ⟨by omega, c2, by omega, by omega, fun h => ⟨rfl, ?_⟩, fun h => by omega⟩
    rcases Nat.lt_or_ge (bl (cutN n (bl n - p) more m ng)) p with h' | h'
    · have := bl_le.1 (show bl (cutN n (bl n - p) more m ng) ≤ p - 1 by omega); omega
    · exact h'

set_option maxHeartbeats 16000000 in
theorem pack_Round_all (f : Nat) (f1 : 1 ≤ f) (f4 : f ≤ 4) (m : Nat) (m1 : 1 ≤ m) (m5 : m ≤ 5) (ng : Bool) (e : Int) (n : Nat) (he1 : -1000000 ≤ e) (he2 : e ≤ 1000000) (hn : bl n ≤ 511) (hn0 : n ≠ 0) (more : Bool) (hm : more = true → fP f < bl n) (w0 : World) (hF : FmtIn w0) :
    GivesAt Tryz.prog 63 #[.int .i64 f, .int .i64 m, .agg (nbC ng e n), .bool more] (.tuple #[Wd (rndP f m ng e n more).1, .int .i64 ((rndP f m ng e n more).2 : Nat), .int .i64 0]) w0 := by
  have hst := St.start [] w0
  have hk := Lib.hid (fun w (k : Keeps [] w0 w) => hF.keep k (by simp))
  have hof := fun w h => format_Of f f1 f4 w h
  have hP := fP_in f
  have hE := fE_in f
  have his := mode_Is_yes m (by omega) (by omega)
  have hri := pack_Right (fP f) (by omega) (by omega) ng e n (by omega) (by omega) hn more hm
  have hdg := pack_digits_all (fP f) (by omega) (by omega) m m1 m5 ng e n (by omega) (by omega) hn more
  obtain ⟨d1, d2, d3, d4, d5, d6⟩ := rDig_in (fP f) m ng e n more (by omega) hn0
  have hdef : rndP f m ng e n more = (let d := rDig (fP f) m ng e n more
    let top : Int := d.2.1 + bl d.1 - 1
    if (fE f : Int) < top then (overW f m ng, 20)
    else if top < 1 - (fE f : Int) then
      let c := rAt (1 - (fE f : Int) - fP f + 1) m ng e n more
      (encW f ng 0 c.1, if c.2 then 24 else 0)
    else (encW f ng (top - (1 - (fE f : Int))).toNat (d.1 * 2 ^ fP f / 2 ^ bl d.1), if d.2.2 then 16 else 0)) := rfl
  obtain ⟨⟨sig, pl, ix⟩, hd⟩ : ∃ d, d = rDig (fP f) m ng e n more := ⟨_, rfl⟩
  rw [← hd] at hdg d1 d2 d3 d4 d5 d6 hdef
  dsimp only at hdg d1 d2 d3 d4 d5 d6 hdef
  obtain ⟨res, hres⟩ : ∃ res, rndP f m ng e n more = res := ⟨_, rfl⟩
  rw [hres] at hdef ⊢
  have hnM := M_bl hn
  have hsM : sig < M := Nat.lt_of_le_of_lt d2 (small_M2 _ (by omega))
  have hlen := wide_Len sig hsM
  obtain ⟨n1, n2, n3⟩ := norm_all (fP f) sig d1 d2 (by omega) (by omega)
  obtain ⟨tp, htp⟩ : ∃ tp : Int, tp = pl + (bl sig : Int) - 1 := ⟨_, rfl⟩
  rw [← htp] at hdef
  have E1 : pl + (bl sig : Int) - 1 = tp := htp.symm
  have Q0 : decide (n = 0) = false := by simpa using hn0
  have hM := M_pos
  have pl1 : -2000000 ≤ pl := by omega
  have pl2 : pl ≤ 2000000 := by omega
  have tp1 : -3000000 ≤ tp := by omega
  have tp2 : tp ≤ 3000000 := by omega
  have z1 := fmC_size f
  have z2 := fmC_one f
  have g1 : (fmC f)[0 + 1]? = some (.int .i64 (fP f : Nat)) := rfl
  have g2 : (fmC f)[0 + 2]? = some (.int .i64 (fE f : Nat)) := rfl
  have g3 : (fmC f)[0 + 3]? = some (.int .i64 (1 - (fE f : Int))) := rfl
  have y1 := nbC_size ng e n
  have y2 := nbC_one ng e n
  have y0 := nbC_0 ng e n
  have hpt : Part (nbC ng e n) (wc 8 n) (nbC ng e n) (wc 8 n) 2 := part1 2 _ _ _ rfl rfl
  by_cases hov : (fE f : Int) < tp
  · rw [if_pos hov] at hdef
    subst hdef
    have hovr := fun w h => pack_over f f1 f4 m m1 m5 ng w h
    clear hres hF hd d1 d2 d3 d4 d5 d6 n1 n2 n3 htp he1 he2 hn hn0 hm m1 m5 f1 f4
    generalize overW f m ng = ov at *
    generalize nbC ng e n = cn at *
    generalize fmC f = cs at *
    generalize bl sig = ku at *
    generalize fP f = p at *
    generalize fE f = E at *
    go_enter Tryz.func63, Tryz.ntmps63
    go_wp2_with ((first | (refine kg gf70 hst (fun w hst => hof w (hk.out w hst.keeps)) rfl rfl rfl rfl ?_; clear hst; intro w hst) | (refine kf gf62 hst (his) rfl rfl rfl rfl ?_; clear hst; intro w hst) | (refine kf gf93 hst (hri) rfl rfl rfl rfl ?_; clear hst; intro w hst) | (refine kf gf95 hst (hdg) rfl rfl rfl rfl ?_; clear hst; intro w hst) | (refine kf gf47 hst (hlen) rfl rfl rfl rfl ?_; clear hst; intro w hst) | (refine kg gf96 hst (fun w hst => hovr w (hk.out w hst.keeps)) rfl rfl rfl rfl ?_; clear hst; intro w hst) | (refine klm hst ta44 rfl ?_ (hc := hpt)) | (refine wl_guard (by rfl) ?_) | (refine kb 6 hst rfl rfl ?_; clear hst; intro b6 w hb6 hst) | (refine ka 8 hst tz24 rfl rfl ?_; clear hst; intro b8 w hb8 hst) | (refine ka 11 hst tz128 rfl rfl ?_; clear hst; intro b11 w hb11 hst) | (refine kt hst ta128 rfl rfl ?_; clear hst; intro w hst) | (refine kc hst tc3 rfl ?_) | (refine kl hst ta46 rfl ?_) | (refine kt hst ta24 rfl rfl ?_; clear hst; intro w hst) | (refine kl hst ta44 rfl ?_) | (refine ke tr44 tc22 rfl ?_) | (refine kc hst tc4 rfl ?_) | (refine ka 13 hst tz44 rfl rfl ?_; clear hst; intro b13 w hb13 hst) | (refine kt hst ta44 rfl rfl ?_; clear hst; intro w hst) | (refine ka 17 hst tz24 rfl rfl ?_; clear hst; intro b17 w hb17 hst) | (refine kl hst ta24 rfl ?_)); try simp only [pz, pn, sz, sc])
    refine bp_ctt rfl rfl (la hst ta24) (by rfl) (by rfl) ⟨?_, hst.keeps⟩
    rfl
  · rw [if_neg hov] at hdef
    have q1 : decide ((fE f : Int) < tp) = false := decide_eq_false hov
    by_cases hlo : tp < 1 - (fE f : Int)
    · rw [if_pos hlo] at hdef
      obtain ⟨p2, hp2⟩ : ∃ p2 : Int, p2 = 1 - (fE f : Int) - fP f + 1 := ⟨_, rfl⟩
      rw [← hp2] at hdef
      have hbn : e + bl n ≤ 1 - (fE f : Int) := by
        rcases Nat.lt_or_ge (fP f) (bl n) with h | h
        · obtain ⟨a, b⟩ := d5 h; omega
        · obtain ⟨a, b⟩ := d6 h; rw [b] at htp; omega
      have hsmall : ∀ k : Nat, (k : Int) = e - p2 → n * 2 ^ k < 2 ^ fP f := fun k hk' => by
        have a := Nat.mul_lt_mul_of_pos_right (bl_spec n).1 (show 0 < 2 ^ k from Nat.pow_pos (by omega))
        rw [← Nat.pow_add] at a
        exact Nat.lt_of_lt_of_le a (Nat.pow_le_pow_right (by omega) (by omega))
      have hat := pack_at_all p2 m m1 m5 ng e n hnM (by omega) (by omega) (by omega) (by omega) (fun h => Nat.lt_trans (hsmall (e - p2).toNat (by omega)) (small_M2 _ (by omega))) more
      have hc : (rAt p2 m ng e n more).1 ≤ 2 ^ fP f := by
        unfold rAt
        by_cases h : p2 - e ≤ 0
        · rw [if_pos h]; exact Nat.le_of_lt (hsmall _ (by omega))
        · rw [if_neg h]
          have a := (cutN_le n (p2 - e).toNat more m ng).2
          have b : n / 2 ^ (p2 - e).toNat < 2 ^ fP f := by
            rw [Nat.div_lt_iff_lt_mul (Nat.pow_pos (by omega)), ← Nat.pow_add]
            exact Nat.lt_of_lt_of_le (bl_spec n).1 (Nat.pow_le_pow_right (by omega) (by omega))
          dsimp only
          omega
      have hjo := fun w h => pack_joined f f1 f4 ng 0 (rAt p2 m ng e n more).1 hc (by
        have a : (rAt p2 m ng e n more).1 / 2 ^ (fP f - 1) ≤ 2 := by
          have b : 2 ^ fP f = 2 * 2 ^ (fP f - 1) := by
            obtain ⟨q, hq⟩ : ∃ q, fP f = q + 1 := ⟨fP f - 1, by omega⟩
            rw [hq, Nat.add_sub_cancel, Nat.pow_succ]; omega
          rw [b] at hc
          exact Nat.div_le_of_le_mul (by rw [Nat.mul_comm]; exact hc)
        omega) w h
      have hfl := pack_flagged (rAt p2 m ng e n more).2 24
      have q2 : decide (tp < 1 - (fE f : Int)) = true := decide_eq_true hlo
      have E3 : 1 - (fE f : Int) - (fP f : Int) + 1 = p2 := hp2.symm
      have p21 : -3000000 ≤ p2 := by omega
      have p22 : p2 ≤ 3000000 := by omega
      obtain ⟨rw1, rf1⟩ := res
      obtain ⟨h1, h2⟩ := Prod.mk.inj hdef
      have h2' : (if (rAt p2 m ng e n more).2 = true then (24 : Int) else 0) = (rf1 : Int) := by rw [h2]; split <;> rfl
      rw [← h1] at hjo
      rw [h2'] at hfl
      clear hdef hres hF hd d1 d2 d3 d4 d5 d6 n1 n2 n3 htp he1 he2 hn hn0 hm m1 m5 f1 f4 hov hlo hbn hsmall hc h1 h2 h2' hp2
      generalize (rAt p2 m ng e n more).1 = c1 at *
      generalize (rAt p2 m ng e n more).2 = c2 at *
      generalize nbC ng e n = cn at *
      generalize fmC f = cs at *
      generalize bl sig = ku at *
      generalize fP f = p at *
      generalize fE f = E at *
      go_enter Tryz.func63, Tryz.ntmps63
      go_wp2_with ((first | (refine kg gf70 hst (fun w hst => hof w (hk.out w hst.keeps)) rfl rfl rfl rfl ?_; clear hst; intro w hst) | (refine kf gf62 hst (his) rfl rfl rfl rfl ?_; clear hst; intro w hst) | (refine kf gf93 hst (hri) rfl rfl rfl rfl ?_; clear hst; intro w hst) | (refine kf gf95 hst (hdg) rfl rfl rfl rfl ?_; clear hst; intro w hst) | (refine kf gf47 hst (hlen) rfl rfl rfl rfl ?_; clear hst; intro w hst) | (refine kf gf97 hst (hat) rfl rfl rfl rfl ?_; clear hst; intro w hst) | (refine kg gf98 hst (fun w hst => hjo w (hk.out w hst.keeps)) rfl rfl rfl rfl ?_; clear hst; intro w hst) | (refine kf gf99 hst (hfl) rfl rfl rfl rfl ?_; clear hst; intro w hst) | (refine klm hst ta44 rfl ?_ (hc := hpt)) | (refine wl_guard (by rfl) ?_) | (refine kb 6 hst rfl rfl ?_; clear hst; intro b6 w hb6 hst) | (refine ka 8 hst tz24 rfl rfl ?_; clear hst; intro b8 w hb8 hst) | (refine ka 11 hst tz128 rfl rfl ?_; clear hst; intro b11 w hb11 hst) | (refine kt hst ta128 rfl rfl ?_; clear hst; intro w hst) | (refine kc hst tc3 rfl ?_) | (refine kl hst ta46 rfl ?_) | (refine kt hst ta24 rfl rfl ?_; clear hst; intro w hst) | (refine kl hst ta44 rfl ?_) | (refine ke tr44 tc22 rfl ?_) | (refine kc hst tc4 rfl ?_) | (refine ka 13 hst tz44 rfl rfl ?_; clear hst; intro b13 w hb13 hst) | (refine kt hst ta44 rfl rfl ?_; clear hst; intro w hst) | (refine ka 19 hst tz44 rfl rfl ?_; clear hst; intro b19 w hb19 hst)); try simp only [pz, pn, sz, sc])
      refine bp_ctt rfl rfl (la hst ta24) (by rfl) (by rfl) ⟨?_, hst.keeps⟩
      rfl
    · rw [if_neg hlo] at hdef
      have q2 : decide (tp < 1 - (fE f : Int)) = false := decide_eq_false hlo
      have hshl := wide_Shl sig ((fP f : Int) - (bl sig : Int)) hsM
      have hshr := wide_Shr (sig * 2 ^ clampN ((fP f : Int) - (bl sig : Int)) % M) (-((fP f : Int) - (bl sig : Int))) (Nat.mod_lt _ M_pos)
      rw [n1] at hshr
      obtain ⟨j, hj⟩ : ∃ j : Nat, j = (tp - (1 - (fE f : Int))).toNat := ⟨_, rfl⟩
      have hjo := fun w h => pack_joined f f1 f4 ng j (sig * 2 ^ fP f / 2 ^ bl sig) (Nat.le_of_lt n2) (by
        have a : sig * 2 ^ fP f / 2 ^ bl sig / 2 ^ (fP f - 1) < 2 := by
          rw [Nat.div_lt_iff_lt_mul (Nat.pow_pos (by omega))]
          have b : 2 ^ fP f = 2 * 2 ^ (fP f - 1) := by
            obtain ⟨q, hq⟩ : ∃ q, fP f = q + 1 := ⟨fP f - 1, by omega⟩
            rw [hq, Nat.add_sub_cancel, Nat.pow_succ]; omega
          omega
        omega) w h
      rw [← hj] at hdef
      have hfl := pack_flagged ix 16
      have E2 : pl - (tp - (fP f : Int) + 1) = (fP f : Int) - (bl sig : Int) := by omega
      have E3 : tp - (1 - (fE f : Int)) = (j : Int) := by omega
      obtain ⟨rw1, rf1⟩ := res
      obtain ⟨h1, h2⟩ := Prod.mk.inj hdef
      have h2' : (if ix = true then (16 : Int) else 0) = (rf1 : Int) := by rw [h2]; split <;> rfl
      rw [← h1] at hjo
      rw [h2'] at hfl
      clear hdef hres hF hd d1 d2 d3 d4 d5 d6 n1 n2 htp he1 he2 hn hn0 hm m1 m5 f1 f4 hov hlo h1 h2 h2' hj
      generalize sig * 2 ^ fP f / 2 ^ bl sig = sg at *
      generalize sig * 2 ^ clampN ((fP f : Int) - (bl sig : Int)) % M = ush at *
      generalize (!decide (sg * 2 ^ clampN (-((fP f : Int) - (bl sig : Int))) = ush)) = bb at *
      generalize nbC ng e n = cn at *
      generalize fmC f = cs at *
      generalize bl sig = ku at *
      generalize fP f = p at *
      generalize fE f = E at *
      go_enter Tryz.func63, Tryz.ntmps63
      go_wp2_with ((first | (refine kg gf70 hst (fun w hst => hof w (hk.out w hst.keeps)) rfl rfl rfl rfl ?_; clear hst; intro w hst) | (refine kf gf62 hst (his) rfl rfl rfl rfl ?_; clear hst; intro w hst) | (refine kf gf93 hst (hri) rfl rfl rfl rfl ?_; clear hst; intro w hst) | (refine kf gf95 hst (hdg) rfl rfl rfl rfl ?_; clear hst; intro w hst) | (refine kf gf47 hst (hlen) rfl rfl rfl rfl ?_; clear hst; intro w hst) | (refine kf gf48 hst (hshl) rfl rfl rfl rfl ?_; clear hst; intro w hst) | (refine kf gf87 hst (hshr) rfl rfl rfl rfl ?_; clear hst; intro w hst) | (refine kg gf98 hst (fun w hst => hjo w (hk.out w hst.keeps)) rfl rfl rfl rfl ?_; clear hst; intro w hst) | (refine kf gf99 hst (hfl) rfl rfl rfl rfl ?_; clear hst; intro w hst) | (refine klm hst ta44 rfl ?_ (hc := hpt)) | (refine wl_guard (by rfl) ?_) | (refine kb 6 hst rfl rfl ?_; clear hst; intro b6 w hb6 hst) | (refine ka 8 hst tz24 rfl rfl ?_; clear hst; intro b8 w hb8 hst) | (refine ka 11 hst tz128 rfl rfl ?_; clear hst; intro b11 w hb11 hst) | (refine kt hst ta128 rfl rfl ?_; clear hst; intro w hst) | (refine kc hst tc3 rfl ?_) | (refine kl hst ta46 rfl ?_) | (refine kt hst ta24 rfl rfl ?_; clear hst; intro w hst) | (refine kl hst ta44 rfl ?_) | (refine ke tr44 tc22 rfl ?_) | (refine kc hst tc4 rfl ?_) | (refine ka 13 hst tz44 rfl rfl ?_; clear hst; intro b13 w hb13 hst) | (refine kt hst ta44 rfl rfl ?_; clear hst; intro w hst)); try simp only [pz, pn, sz, sc])
      refine bp_ctt rfl rfl (la hst ta24) (by rfl) (by rfl) ⟨?_, hst.keeps⟩
      rfl

end Go.Proofs.YtefpoconpeggpaaGreatDoor.Rd
