/- What the reference's Len and Cmp answer. -/
import Derived.Test.YtojjmcghcgidlaaGreatDoorReB
namespace Go.Proofs.YtojjmcghcgidlaaGreatDoor.Rd
open Go Go.RowKit
set_option linter.unusedVariables false
set_option linter.unusedSimpArgs false
set_option maxRecDepth 100000

theorem bl_half (d : Nat) (h : d ≠ 0) : bl d = 1 + bl (d / 2) := by
  by_cases h2 : d / 2 = 0
  · have : d = 1 := by omega
    subst this; decide
  · have := bl_shift d 1 (by simpa using h2)
    simpa using this
theorem bl_top {n l : Nat} (h : dl n = l + 1) : bl n = 32 * l + bl (dg n l) ∧ dg n l ≠ 0 := by
  have h1 := dl_lt n
  rw [h] at h1
  have h2 : dg n l ≠ 0 := fun h0 => by
    have := dl_le.2 (lt_down h1 h0); omega
  have h3 : dg n l = n / 2 ^ (32 * l) := by
    unfold dg
    rw [C_pow, Nat.mod_eq_of_lt]
    rw [Nat.div_lt_iff_lt_mul (Nat.pow_pos (by omega)), ← C_pow, ← Nat.pow_succ']; exact h1
  refine ⟨?_, h2⟩
  rw [h3] at h2 ⊢
  exact bl_shift n (32 * l) h2

set_option maxHeartbeats 4000000 in
theorem ref01_Len (v : Value) (l n : Nat) (w0 : World) (h : BigAt w0 v l n) : GivesAt Tryz.prog 30 #[v] (.int .i64 (bl n : Nat)) w0 := by
  obtain ⟨a, cap, rfl⟩ : ∃ a cap, v = .slice a l cap := by obtain ⟨_, _, a, cap, h, _⟩ := h; exact ⟨a, cap, h⟩
  have htr := fun w k => ref01_trim a l cap n w (h.keep (w' := w) k)
  obtain ⟨hn, hl, a', cap', e, hcap, hmem⟩ := h
  injection e with e1 e2 e3
  subst e1
  subst e3
  have hdl := dl_le.2 hn
  rcases hd : dl n with _ | m
  · have hst := St.start [] w0
    have hn0 : n = 0 := by
      rcases Nat.eq_zero_or_pos n with h | h
      · exact h
      · have := dl_pos.2 h; omega
    subst hn0
    rw [hd] at htr
    clear hmem hn hd hdl
    go_enter Tryz.func30, Tryz.ntmps30
    go_wp2_with ((first | (refine kg gf29 hst (fun w hst => htr w hst.keeps) rfl rfl rfl rfl ?_; clear hst; intro w hst) | (refine kc hst tc57 rfl ?_)); try simp only [pz, pn, sz, sc])
    refine bp_t rfl rfl (by rfl) ⟨?_, hst.keeps⟩
    rfl
  · obtain ⟨g, cur, E, rfl, hg, hc⟩ := hmem (by omega)
    obtain ⟨hb1, hb2⟩ := bl_top hd
    have hcm := hc m (by omega)
    have hst := (St.start [] w0).add hg (by simp)
    rw [hd] at htr
    have hdC := dg_lt n m
    generalize dg n m = d0 at *
    have e1 : ((m + 1 : Nat) : Int) = (m : Int) + 1 := by omega
    have h1 : (0 : Int) ≤ (m : Int) := by omega
    have hm1 : m ≤ 1000000 := by omega
    rw [hb1]
    have hb3 : bl d0 ≤ 32 := bl_le.2 hdC
    clear hb1 hdl hd hc hg hn hdC
    go_enter Tryz.func30, Tryz.ntmps30
    go_wp2_with ((first | (refine kg gf29 hst (fun w hst => htr w hst.keeps) rfl rfl rfl rfl ?_; clear hst; intro w hst) | (refine kc hst tc57 rfl ?_)); try simp only [pz, pn, sz, sc])
    go_loopw [3, 4] (fun vn vd wr => ∃ (k d : Nat), k + bl d = bl d0 ∧ vn = .int .i64 k ∧ vd = .int .u32 d ∧ St w0 [] [(g, .cells cur E (0, 0))] wr) (fun _ vd _ => (intOf vd).toNat)
    case atStart => exact ⟨0, d0, by omega, rfl, rfl, hst⟩
    case round =>
      clear hst
      obtain ⟨k, d, hk, rfl, rfl, hst⟩ := hrel
      by_cases hd0 : d = 0
      · subst hd0
        have hkk : k = bl d0 := by have : bl 0 = 0 := rfl
                                   omega
        have hk32 : k ≤ 32 := by omega
        have hkk' := Lib.hid hkk
        clear hk hkk
        go_wp2_with ((first | (refine kc hst tc57 rfl ?_)); try simp only [pz, pn, sz, sc])
        refine bp_t rfl rfl (by rfl) ⟨?_, hst.keeps⟩
        rw [← hkk'.out]; go_num
      · have hbh := bl_half d hd0
        have h2 : (0 : Int) < (d : Int) := by omega
        have hk2 : k + 1 + bl (d / 2) = bl d0 := by omega
        have h3 : d / 2 < d := by omega
        have hk32 : k ≤ 32 := by omega
        obtain ⟨f, hf⟩ : ∃ f, f = d / 2 := ⟨_, rfl⟩
        rw [← hf] at hk2 h3
        have F1 : (d : Int) / 2 = (f : Int) := by omega
        have F2 : (d : Int).tdiv 2 = (f : Int) := by rw [Int.tdiv_eq_ediv_of_nonneg (by omega)]; exact F1
        have F3 : IntKind.u32.wrap (f : Int) = (f : Int) := by
          rw [u32_wrap, Nat.mod_eq_of_lt]
          have : d < C := by
            have : bl d ≤ 32 := by omega
            have := bl_le.1 this
            rw [C_val]; omega
          omega
        have hk2' := Lib.hid hk2
        clear hk hbh hk2 hf
        go_wp2_with ((first | (refine kc hst tc57 rfl ?_)); try simp only [pz, pn, sz, sc])
        refine ⟨⟨k + 1, f, hk2'.out, by go_num, rfl, hst⟩, ?_⟩
        simp [intOf]; omega

def cmp (a b : Nat) : Int := if a < b then -1 else if b < a then 1 else 0
theorem div_dg (n k : Nat) : n / C ^ k = n / C ^ (k + 1) * C + dg n k := by
  have := Nat.div_add_mod (n / C ^ k) C
  rw [Nat.div_div_eq_div_mul, show C ^ k * C = C ^ (k + 1) from rfl] at this
  unfold dg
  rw [Nat.mul_comm (n / C ^ (k + 1))]; exact this.symm
theorem lt_of_div {a b c : Nat} (h : a / c < b / c) : a < b := by
  rcases Nat.lt_or_ge a b with h' | h'
  · exact h'
  · have := Nat.div_le_div_right (c := c) h'; omega

end Go.Proofs.YtojjmcghcgidlaaGreatDoor.Rd
