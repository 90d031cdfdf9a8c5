/- What the reference's Len and Cmp answer. -/
import Derived.Test.YtojjmcghcgidlaaDoorRdX
namespace Go.Proofs.YtojjmcghcgidlaaDoor.Rd
open Go Go.RowKit
set_option linter.unusedVariables false
set_option linter.unusedSimpArgs false
set_option maxRecDepth 100000

theorem bl_half (d : Nat) (h : d ≠ 0) : bl d = 1 + bl (d / 2) := by
  by_cases h2 : d / 2 = 0
  · have : d = 1 := by omega
    subst this; decide
  · have := bl_shift d 1 (by simpa using h2)
    simpa using this
theorem bl_top {n l : Nat} (h : dl n = l + 1) : bl n = 32 * l + bl (dg n l) ∧ dg n l ≠ 0 := by
  have h1 := dl_lt n
  rw [h] at h1
  have h2 : dg n l ≠ 0 := fun h0 => by
    have := dl_le.2 (lt_down h1 h0); omega
  have h3 : dg n l = n / 2 ^ (32 * l) := by
    unfold dg
    rw [C_pow, Nat.mod_eq_of_lt]
    rw [Nat.div_lt_iff_lt_mul (Nat.pow_pos (by omega)), ← C_pow, ← Nat.pow_succ']; exact h1
  refine ⟨?_, h2⟩
  rw [h3] at h2 ⊢
  exact bl_shift n (32 * l) h2

set_option maxHeartbeats 4000000 in
theorem ref01_Len (v : Value) (l n : Nat) (w0 : World) (h : BigAt w0 v l n) : GivesAt Tryd.prog 21 #[v] (.int .i64 (bl n : Nat)) w0 := by
  obtain ⟨a, cap, rfl⟩ : ∃ a cap, v = .slice a l cap := by obtain ⟨_, _, a, cap, h, _⟩ := h; exact ⟨a, cap, h⟩
  have htr := fun w k => ref01_trim a l cap n w (h.keep (w' := w) k)
  obtain ⟨hn, hl, a', cap', e, hcap, hmem⟩ := h
  injection e with e1 e2 e3
  subst e1
  subst e3
  have hdl := dl_le.2 hn
  rcases hd : dl n with _ | m
  · have hst := St.start [] w0
    have hn0 : n = 0 := by
      rcases Nat.eq_zero_or_pos n with h | h
      · exact h
      · have := dl_pos.2 h; omega
    subst hn0
    rw [hd] at htr
    clear hmem hn hd hdl
    go_enter Tryd.func21, Tryd.ntmps21
    go_wp2_with ((first | (refine kg gf43 hst (fun w hst => htr w hst.keeps) rfl rfl rfl rfl ?_; clear hst; intro w hst) | (refine kc hst tc48 rfl ?_)); try simp only [pz, pn, sz, sc])
    refine bp_t rfl rfl (by rfl) ⟨?_, hst.keeps⟩
    rfl
  · obtain ⟨g, cur, E, rfl, hg, hc⟩ := hmem (by omega)
    obtain ⟨hb1, hb2⟩ := bl_top hd
    have hcm := hc m (by omega)
    have hst := (St.start [] w0).add hg (by simp)
    rw [hd] at htr
    have hdC := dg_lt n m
    generalize dg n m = d0 at *
    have e1 : ((m + 1 : Nat) : Int) = (m : Int) + 1 := by omega
    have h1 : (0 : Int) ≤ (m : Int) := by omega
    have hm1 : m ≤ 1000000 := by omega
    rw [hb1]
    have hb3 : bl d0 ≤ 32 := bl_le.2 hdC
    clear hb1 hdl hd hc hg hn hdC
    go_enter Tryd.func21, Tryd.ntmps21
    go_wp2_with ((first | (refine kg gf43 hst (fun w hst => htr w hst.keeps) rfl rfl rfl rfl ?_; clear hst; intro w hst) | (refine kc hst tc48 rfl ?_)); try simp only [pz, pn, sz, sc])
    go_loopw [3, 4] (fun vn vd wr => ∃ (k d : Nat), k + bl d = bl d0 ∧ vn = .int .i64 k ∧ vd = .int .u32 d ∧ St w0 [] [(g, .cells cur E (0, 0))] wr) (fun _ vd _ => (intOf vd).toNat)
    case atStart => exact ⟨0, d0, by omega, rfl, rfl, hst⟩
    case round =>
      clear hst
      obtain ⟨k, d, hk, rfl, rfl, hst⟩ := hrel
      by_cases hd0 : d = 0
      · subst hd0
        have hkk : k = bl d0 := by have : bl 0 = 0 := rfl
                                   omega
        have hk32 : k ≤ 32 := by omega
        have hkk' := Lib.hid hkk
        clear hk hkk
        go_wp2_with ((first | (refine kc hst tc48 rfl ?_)); try simp only [pz, pn, sz, sc])
        refine bp_t rfl rfl (by rfl) ⟨?_, hst.keeps⟩
        rw [← hkk'.out]; go_num
      · have hbh := bl_half d hd0
        have h2 : (0 : Int) < (d : Int) := by omega
        have hk2 : k + 1 + bl (d / 2) = bl d0 := by omega
        have h3 : d / 2 < d := by omega
        have hk32 : k ≤ 32 := by omega
        obtain ⟨f, hf⟩ : ∃ f, f = d / 2 := ⟨_, rfl⟩
        rw [← hf] at hk2 h3
        have F1 : (d : Int) / 2 = (f : Int) := by omega
        have F2 : (d : Int).tdiv 2 = (f : Int) := by rw [Int.tdiv_eq_ediv_of_nonneg (by omega)]; exact F1
        have F3 : IntKind.u32.wrap (f : Int) = (f : Int) := by
          rw [u32_wrap, Nat.mod_eq_of_lt]
          have : d < C := by
            have : bl d ≤ 32 := by omega
            have := bl_le.1 this
            rw [C_val]; omega
          omega
        have hk2' := Lib.hid hk2
        clear hk hbh hk2 hf
        go_wp2_with ((first | (refine kc hst tc48 rfl ?_)); try simp only [pz, pn, sz, sc])
        refine ⟨⟨k + 1, f, hk2'.out, by go_num, rfl, hst⟩, ?_⟩
        simp [intOf]; omega

def cmp (a b : Nat) : Int := if a < b then -1 else if b < a then 1 else 0
theorem div_dg (n k : Nat) : n / C ^ k = n / C ^ (k + 1) * C + dg n k := by
  have := Nat.div_add_mod (n / C ^ k) C
  rw [Nat.div_div_eq_div_mul, show C ^ k * C = C ^ (k + 1) from rfl] at this
  unfold dg
  rw [Nat.mul_comm (n / C ^ (k + 1))]; exact this.symm
theorem lt_of_div {a b c : Nat} (h : a / c < b / c) : a < b := by
  rcases Nat.lt_or_ge a b with h' | h'
  · exact h'
  · have := Nat.div_le_div_right (c := c) h'; omega

set_option maxHeartbeats 8000000 in
theorem ref01_Cmp (va vb : Value) (la lb' a b : Nat) (w0 : World) (ha : BigAt w0 va la a) (hb : BigAt w0 vb lb' b) (hla : la ≤ 100000) (hlb : lb' ≤ 100000) : GivesAt Tryd.prog 35 #[va, vb] (.int .i64 (cmp a b)) w0 := by
  have hst := St.start [] w0
  have hda := fun (i : Nat) (hi : i ≤ 1000000) (w : World) (hst : Keeps [] w0 w) => ref01_digit va la a i hi w (ha.keep hst)
  have hdb := fun (i : Nat) (hi : i ≤ 1000000) (w : World) (hst : Keeps [] w0 w) => ref01_digit vb lb' b i hi w (hb.keep hst)
  obtain ⟨han, _, aa, capa, rfl, _, _⟩ := ha
  obtain ⟨hbn, _, ab, capb, rfl, _, _⟩ := hb
  obtain ⟨mx, hmx⟩ : ∃ mx, mx = max la lb' := ⟨_, rfl⟩
  have hmx' : (if (lb' : Int) ≤ (la : Int) then (la : Int) else (lb' : Int)) = (mx : Int) := by split <;> omega
  have h1 : a < C ^ mx := Nat.lt_of_lt_of_le han (Nat.pow_le_pow_right C_pos (by omega))
  have h2 : b < C ^ mx := Nat.lt_of_lt_of_le hbn (Nat.pow_le_pow_right C_pos (by omega))
  have hmx2 : (max (la : Int) (lb' : Int)) = (mx : Int) := by omega
  have hmxl : mx ≤ 100000 := by omega
  go_enter Tryd.func35, Tryd.ntmps35
  go_wp2_with fail
  go_loopw [5] (fun vi wr => ∃ (t : Nat), t ≤ mx ∧ vi = .int .i64 ((t : Int) - 1) ∧ a / C ^ t = b / C ^ t ∧ St w0 [] [] wr) (fun vi _ => (intOf vi + 1).toNat)
  case atStart => exact ⟨mx, by omega, by go_num, by rw [Nat.div_eq_of_lt h1, Nat.div_eq_of_lt h2], hst⟩
  case round =>
    clear hst hmx hmx' hmx2
    obtain ⟨t, ht, rfl, he, hst⟩ := hrel
    cases t with
    | zero =>
      simp only [Nat.pow_zero, Nat.div_one] at he
      subst he
      have hc : cmp a a = 0 := by simp [cmp]
      have hc' := Lib.hid hc
      clear hc h1 h2 han hbn
      go_wp2_with fail
      refine bp_t rfl rfl (by rfl) ⟨?_, hst.keeps⟩
      rw [hc'.out]; rfl
    | succ k =>
      have hdai := hda k (by omega)
      have hdbi := hdb k (by omega)
      have ea := div_dg a k
      have eb := div_dg b k
      rw [he] at ea
      have g1 : dg a k < dg b k → cmp a b = -1 := fun h => by
        have : a < b := lt_of_div (c := C ^ k) (by omega)
        unfold cmp; rw [if_pos this]
      have g2 : dg b k < dg a k → cmp a b = 1 := fun h => by
        have : b < a := lt_of_div (c := C ^ k) (by omega)
        unfold cmp; rw [if_neg (by omega), if_pos this]
      have g3 : dg a k = dg b k → a / C ^ k = b / C ^ k := fun h => by omega
      generalize dg a k = x at *
      generalize dg b k = y at *
      have g1' := Lib.hid g1
      have g2' := Lib.hid g2
      have g3' := Lib.hid g3
      have h0 : (0 : Int) ≤ (k : Int) := by omega
      have ek : ((k + 1 : Nat) : Int) - 1 = (k : Int) := by omega
      rw [ek]
      have hk1 : k ≤ 100000 := by omega
      have hkm : k ≤ mx := by omega
      clear ea eb g1 g2 g3 he h1 h2 han hbn ek ht
      rcases Nat.lt_trichotomy x y with h | h | h
      · have t1 : ((x : Int) < (y : Int)) := by omega
        have e := Lib.hid (g1'.out h)
        clear h
        go_wp2_with ((first | (refine kg gf44 hst (fun w hst => hdai w hst.keeps) rfl rfl rfl rfl ?_; clear hst; intro w hst) | (refine kg gf44 hst (fun w hst => hdbi w hst.keeps) rfl rfl rfl rfl ?_; clear hst; intro w hst)); try simp only [pz, pn, sz, sc])
        refine bp_t rfl rfl (by rfl) ⟨?_, hst.keeps⟩
        rw [e.out]; rfl
      · have e := Lib.hid (g3'.out h)
        subst h
        have t1 : ¬ ((x : Int) < (x : Int)) := by omega
        go_wp2_with ((first | (refine kg gf44 hst (fun w hst => hdai w hst.keeps) rfl rfl rfl rfl ?_; clear hst; intro w hst) | (refine kg gf44 hst (fun w hst => hdbi w hst.keeps) rfl rfl rfl rfl ?_; clear hst; intro w hst)); try simp only [pz, pn, sz, sc])
        go_roundw
        case rel => exact ⟨k, hkm, by go_num, e.out, hst⟩
        case measure => simp [intOf]
      · have t1 : ¬ ((x : Int) < (y : Int)) := by omega
        have t2 : ((y : Int) < (x : Int)) := by omega
        have e := Lib.hid (g2'.out h)
        clear h
        go_wp2_with ((first | (refine kg gf44 hst (fun w hst => hdai w hst.keeps) rfl rfl rfl rfl ?_; clear hst; intro w hst) | (refine kg gf44 hst (fun w hst => hdbi w hst.keeps) rfl rfl rfl rfl ?_; clear hst; intro w hst)); try simp only [pz, pn, sz, sc])
        refine bp_t rfl rfl (by rfl) ⟨?_, hst.keeps⟩
        rw [e.out]; rfl

end Go.Proofs.YtojjmcghcgidlaaDoor.Rd
