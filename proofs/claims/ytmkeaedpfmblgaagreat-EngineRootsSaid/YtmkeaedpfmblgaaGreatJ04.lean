/- What limb.at, Less, Bit and wide.at, clamp, Cmp, Len, Bit, Minus, Neg answer, as numbers. -/
import Derived.Test.YtmkeaedpfmblgaaGreatJ03
import Derived.Test.YtmkeaedpfmblgaaGreatJ02
namespace Go.Proofs.YtmkeaedpfmblgaaGreat.Rd
open Go Go.RowKit
set_option linter.unusedVariables false
set_option linter.unusedSimpArgs false
set_option maxRecDepth 100000

theorem bl_half (d : Nat) (h : d ≠ 0) : bl d = 1 + bl (d / 2) := by
  by_cases h2 : d / 2 = 0
  · have : d = 1 := by omega
    subst this; decide
  · have := bl_shift d 1 (by simpa using h2)
    simpa using this
theorem bl_top {n l : Nat} (h : dl n = l + 1) : bl n = 32 * l + bl (dg n l) ∧ dg n l ≠ 0 := by
  have h1 := dl_lt n
  rw [h] at h1
  have h2 : dg n l ≠ 0 := fun h0 => by
    have := dl_le.2 (lt_down h1 h0); omega
  have h3 : dg n l = n / 2 ^ (32 * l) := by
    unfold dg
    rw [C_pow, Nat.mod_eq_of_lt]
    rw [Nat.div_lt_iff_lt_mul (Nat.pow_pos (by omega)), ← C_pow, ← Nat.pow_succ']; exact h1
  refine ⟨?_, h2⟩
  rw [h3] at h2 ⊢
  exact bl_shift n (32 * l) h2

set_option maxHeartbeats 4000000 in
theorem ref01_Len (v : Value) (l n : Nat) (w0 : World) (h : BigAt w0 v l n) : GivesAt Tryz.prog 30 #[v] (.int .i64 (bl n : Nat)) w0 := by
  obtain ⟨a, cap, rfl⟩ : ∃ a cap, v = .slice a l cap := by obtain ⟨_, _, a, cap, h, _⟩ := h; exact ⟨a, cap, h⟩
  have htr := fun w k => ref01_trim a l cap n w (h.keep (w' := w) k)
  obtain ⟨hn, hl, a', cap', e, hcap, hmem⟩ := h
  injection e with e1 e2 e3
  subst e1
  subst e3
  have hdl := dl_le.2 hn
  rcases hd : dl n with _ | m
  · have hst := St.start [] w0
    have hn0 : n = 0 := by
      rcases Nat.eq_zero_or_pos n with h | h
      · exact h
      · have := dl_pos.2 h; omega
    subst hn0
    rw [hd] at htr
    clear hmem hn hd hdl
    go_enter Tryz.func30, Tryz.ntmps30
    go_wp2_with ((first | (refine kg gf49 hst (fun w hst => htr w hst.keeps) rfl rfl rfl rfl ?_; clear hst; intro w hst) | (refine kc hst tc53 rfl ?_)); try simp only [pz, pn, sz, sc])
    refine bp_t rfl rfl (by rfl) ⟨?_, hst.keeps⟩
    rfl
  · obtain ⟨g, cur, E, rfl, hg, hc⟩ := hmem (by omega)
    obtain ⟨hb1, hb2⟩ := bl_top hd
    have hcm := hc m (by omega)
    have hst := (St.start [] w0).add hg (by simp)
    rw [hd] at htr
    have hdC := dg_lt n m
    generalize dg n m = d0 at *
    have e1 : ((m + 1 : Nat) : Int) = (m : Int) + 1 := by omega
    have h1 : (0 : Int) ≤ (m : Int) := by omega
    have hm1 : m ≤ 1000000 := by omega
    rw [hb1]
    have hb3 : bl d0 ≤ 32 := bl_le.2 hdC
    clear hb1 hdl hd hc hg hn hdC
    go_enter Tryz.func30, Tryz.ntmps30
    go_wp2_with ((first | (refine kg gf49 hst (fun w hst => htr w hst.keeps) rfl rfl rfl rfl ?_; clear hst; intro w hst) | (refine kc hst tc53 rfl ?_)); try simp only [pz, pn, sz, sc])
    go_loopw [3, 4] (fun vn vd wr => ∃ (k d : Nat), k + bl d = bl d0 ∧ vn = .int .i64 k ∧ vd = .int .u32 d ∧ St w0 [] [(g, .cells cur E (0, 0))] wr) (fun _ vd _ => (intOf vd).toNat)
    case atStart => exact ⟨0, d0, by omega, rfl, rfl, hst⟩
    case round =>
      clear hst
      obtain ⟨k, d, hk, rfl, rfl, hst⟩ := hrel
      by_cases hd0 : d = 0
      · subst hd0
        have hkk : k = bl d0 := by have : bl 0 = 0 := rfl
                                   omega
        have hk32 : k ≤ 32 := by omega
        have hkk' := Lib.hid hkk
        clear hk hkk
        go_wp2_with ((first | (refine kc hst tc53 rfl ?_)); try simp only [pz, pn, sz, sc])
        refine bp_t rfl rfl (by rfl) ⟨?_, hst.keeps⟩
        rw [← hkk'.out]; go_num
      · have hbh := bl_half d hd0
        have h2 : (0 : Int) < (d : Int) := by omega
        have hk2 : k + 1 + bl (d / 2) = bl d0 := by omega
        have h3 : d / 2 < d := by omega
        have hk32 : k ≤ 32 := by omega
        obtain ⟨f, hf⟩ : ∃ f, f = d / 2 := ⟨_, rfl⟩
        rw [← hf] at hk2 h3
        have F1 : (d : Int) / 2 = (f : Int) := by omega
        have F2 : (d : Int).tdiv 2 = (f : Int) := by rw [Int.tdiv_eq_ediv_of_nonneg (by omega)]; exact F1
        have F3 : IntKind.u32.wrap (f : Int) = (f : Int) := by
          rw [u32_wrap, Nat.mod_eq_of_lt]
          have : d < C := by
            have : bl d ≤ 32 := by omega
            have := bl_le.1 this
            rw [C_val]; omega
          omega
        have hk2' := Lib.hid hk2
        clear hk hbh hk2 hf
        go_wp2_with ((first | (refine kc hst tc53 rfl ?_)); try simp only [pz, pn, sz, sc])
        refine ⟨⟨k + 1, f, hk2'.out, by go_num, rfl, hst⟩, ?_⟩
        simp [intOf]; omega

def cmp (a b : Nat) : Int := if a < b then -1 else if b < a then 1 else 0
theorem div_dg (n k : Nat) : n / C ^ k = n / C ^ (k + 1) * C + dg n k := by
  have := Nat.div_add_mod (n / C ^ k) C
  rw [Nat.div_div_eq_div_mul, show C ^ k * C = C ^ (k + 1) from rfl] at this
  unfold dg
  rw [Nat.mul_comm (n / C ^ (k + 1))]; exact this.symm
theorem lt_of_div {a b c : Nat} (h : a / c < b / c) : a < b := by
  rcases Nat.lt_or_ge a b with h' | h'
  · exact h'
  · have := Nat.div_le_div_right (c := c) h'; omega

set_option maxHeartbeats 8000000 in
theorem ref01_Cmp (va vb : Value) (la lb' a b : Nat) (w0 : World) (ha : BigAt w0 va la a) (hb : BigAt w0 vb lb' b) (hla : la ≤ 100000) (hlb : lb' ≤ 100000) : GivesAt Tryz.prog 31 #[va, vb] (.int .i64 (cmp a b)) w0 := by
  have hst := St.start [] w0
  have hda := fun (i : Nat) (hi : i ≤ 1000000) (w : World) (hst : Keeps [] w0 w) => ref01_digit va la a i hi w (ha.keep hst)
  have hdb := fun (i : Nat) (hi : i ≤ 1000000) (w : World) (hst : Keeps [] w0 w) => ref01_digit vb lb' b i hi w (hb.keep hst)
  obtain ⟨han, _, aa, capa, rfl, _, _⟩ := ha
  obtain ⟨hbn, _, ab, capb, rfl, _, _⟩ := hb
  obtain ⟨mx, hmx⟩ : ∃ mx, mx = max la lb' := ⟨_, rfl⟩
  have hmx' : (if (lb' : Int) ≤ (la : Int) then (la : Int) else (lb' : Int)) = (mx : Int) := by split <;> omega
  have h1 : a < C ^ mx := Nat.lt_of_lt_of_le han (Nat.pow_le_pow_right C_pos (by omega))
  have h2 : b < C ^ mx := Nat.lt_of_lt_of_le hbn (Nat.pow_le_pow_right C_pos (by omega))
  have hmx2 : (max (la : Int) (lb' : Int)) = (mx : Int) := by omega
  have hmxl : mx ≤ 100000 := by omega
  go_enter Tryz.func31, Tryz.ntmps31
  go_wp2_with fail
  go_loopw [5] (fun vi wr => ∃ (t : Nat), t ≤ mx ∧ vi = .int .i64 ((t : Int) - 1) ∧ a / C ^ t = b / C ^ t ∧ St w0 [] [] wr) (fun vi _ => (intOf vi + 1).toNat)
  case atStart => exact ⟨mx, by omega, by go_num, by rw [Nat.div_eq_of_lt h1, Nat.div_eq_of_lt h2], hst⟩
  case round =>
    clear hst hmx hmx' hmx2
    obtain ⟨t, ht, rfl, he, hst⟩ := hrel
    cases t with
    | zero =>
      simp only [Nat.pow_zero, Nat.div_one] at he
      subst he
      have hc : cmp a a = 0 := by simp [cmp]
      have hc' := Lib.hid hc
      clear hc h1 h2 han hbn
      go_wp2_with fail
      refine bp_t rfl rfl (by rfl) ⟨?_, hst.keeps⟩
      rw [hc'.out]; rfl
    | succ k =>
      have hdai := hda k (by omega)
      have hdbi := hdb k (by omega)
      have ea := div_dg a k
      have eb := div_dg b k
      rw [he] at ea
      have g1 : dg a k < dg b k → cmp a b = -1 := fun h => by
        have : a < b := lt_of_div (c := C ^ k) (by omega)
        unfold cmp; rw [if_pos this]
      have g2 : dg b k < dg a k → cmp a b = 1 := fun h => by
        have : b < a := lt_of_div (c := C ^ k) (by omega)
        unfold cmp; rw [if_neg (by omega), if_pos this]
      have g3 : dg a k = dg b k → a / C ^ k = b / C ^ k := fun h => by omega
      generalize dg a k = x at *
      generalize dg b k = y at *
      have g1' := Lib.hid g1
      have g2' := Lib.hid g2
      have g3' := Lib.hid g3
      have h0 : (0 : Int) ≤ (k : Int) := by omega
      have ek : ((k + 1 : Nat) : Int) - 1 = (k : Int) := by omega
      rw [ek]
      have hk1 : k ≤ 100000 := by omega
      have hkm : k ≤ mx := by omega
      clear ea eb g1 g2 g3 he h1 h2 han hbn ek ht
      rcases Nat.lt_trichotomy x y with h | h | h
      · have t1 : ((x : Int) < (y : Int)) := by omega
        have e := Lib.hid (g1'.out h)
        clear h
        go_wp2_with ((first | (refine kg gf50 hst (fun w hst => hdai w hst.keeps) rfl rfl rfl rfl ?_; clear hst; intro w hst) | (refine kg gf50 hst (fun w hst => hdbi w hst.keeps) rfl rfl rfl rfl ?_; clear hst; intro w hst)); try simp only [pz, pn, sz, sc])
        refine bp_t rfl rfl (by rfl) ⟨?_, hst.keeps⟩
        rw [e.out]; rfl
      · have e := Lib.hid (g3'.out h)
        subst h
        have t1 : ¬ ((x : Int) < (x : Int)) := by omega
        go_wp2_with ((first | (refine kg gf50 hst (fun w hst => hdai w hst.keeps) rfl rfl rfl rfl ?_; clear hst; intro w hst) | (refine kg gf50 hst (fun w hst => hdbi w hst.keeps) rfl rfl rfl rfl ?_; clear hst; intro w hst)); try simp only [pz, pn, sz, sc])
        go_roundw
        case rel => exact ⟨k, hkm, by go_num, e.out, hst⟩
        case measure => simp [intOf]
      · have t1 : ¬ ((x : Int) < (y : Int)) := by omega
        have t2 : ((y : Int) < (x : Int)) := by omega
        have e := Lib.hid (g2'.out h)
        clear h
        go_wp2_with ((first | (refine kg gf50 hst (fun w hst => hdai w hst.keeps) rfl rfl rfl rfl ?_; clear hst; intro w hst) | (refine kg gf50 hst (fun w hst => hdbi w hst.keeps) rfl rfl rfl rfl ?_; clear hst; intro w hst)); try simp only [pz, pn, sz, sc])
        refine bp_t rfl rfl (by rfl) ⟨?_, hst.keeps⟩
        rw [e.out]; rfl

end Go.Proofs.YtmkeaedpfmblgaaGreat.Rd

namespace Go.Proofs.YtmkeaedpfmblgaaGreat.Rd
open Go Go.RowKit
set_option linter.unusedVariables false
set_option linter.unusedSimpArgs false
set_option maxRecDepth 100000

/-- A slice of limbs that holds n. -/
def LimbAt (w : World) (v : Value) (l n : Nat) : Prop := n < B ^ l ∧ l ≤ 100000 ∧ ∃ b cap k m E fr, v = .slice (some ⟨b, 0, none⟩) l cap ∧ l ≤ cap ∧ l ≤ k ∧ w.heap[b]? = some (.cells (wc k m) E fr) ∧ m % B ^ l = n
theorem LimbAt.keep {w w' : World} {v : Value} {l n : Nat} (h : LimbAt w v l n) (k : Keeps [] w w') : LimbAt w' v l n := by
  obtain ⟨h1, h2, b, cap, j, m, E, fr, e, h3, h4, h5, h6⟩ := h
  exact ⟨h1, h2, b, cap, j, m, E, fr, e, h3, h4, by rw [k.block b (lt_of_some h5) (by simp)]; exact h5, h6⟩
theorem lb_mod {m l i : Nat} (h : i < l) : lb (m % B ^ l) i = lb m i := by
  have := lb_part m 0 l i h
  rwa [Nat.pow_zero, Nat.div_one, Nat.zero_add] at this

theorem limb_at_no (v : Value) (l n : Nat) (i : Int) (hi : i < 0) (w0 : World) (h : LimbAt w0 v l n) : GivesAt Tryz.prog 130 #[v, .int .i64 i] (.int .u64 0) w0 := by
  obtain ⟨hn, hl, b, cap, k, m, E, fr, rfl, h3, h4, h5, h6⟩ := h
  have hst := St.start [] w0
  clear hn h5 h6
  go_enter Tryz.func130, Tryz.ntmps130
  go_wp2_with ((first | (refine wl_guard (by rfl) ?_) | (refine kc hst tc22 rfl ?_)); try simp only [pz, pn, sz, sc])
  refine bp_t rfl rfl (by rfl) ⟨?_, hst.keeps⟩
  rfl

theorem limb_at (v : Value) (l n i : Nat) (w0 : World) (h : LimbAt w0 v l n) : GivesAt Tryz.prog 130 #[v, .int .i64 i] (.int .u64 (lb n i : Nat)) w0 := by
  obtain ⟨hn, hl, b, cap, k, m, E, fr, rfl, h3, h4, h5, h6⟩ := h
  have hst := (St.start [] w0).add h5 (by simp)
  have h0 : ¬ ((i : Int) < 0) := by omega
  have h0' : (0 : Int) ≤ (i : Int) := by omega
  by_cases hil : i < l
  · have e : lb n i = lb m i := by rw [← h6, lb_mod hil]
    rw [e]
    have h1 : ¬ ((l : Int) ≤ (i : Int)) := by omega
    have h2 : (i : Int) < (l : Int) := by omega
    clear hn h5 h6 e
    go_enter Tryz.func130, Tryz.ntmps130
    go_wp2_with ((first | (refine wl_guard (by rfl) ?_) | (refine kc hst tc22 rfl ?_)); try simp only [pz, pn, sz, sc])
    refine bp_t rfl rfl (by rfl) ⟨?_, hst.keeps⟩
    rfl
  · have e : lb n i = 0 := lb_lt_of hn (by omega)
    rw [e]
    have h1 : ((l : Int) ≤ (i : Int)) := by omega
    clear hn h5 h6 e
    go_enter Tryz.func130, Tryz.ntmps130
    go_wp2_with ((first | (refine wl_guard (by rfl) ?_) | (refine kc hst tc22 rfl ?_)); try simp only [pz, pn, sz, sc])
    refine bp_t rfl rfl (by rfl) ⟨?_, hst.keeps⟩
    rfl

theorem div_lb (n k : Nat) : n / B ^ k = n / B ^ (k + 1) * B + lb n k := by
  have := Nat.div_add_mod (n / B ^ k) B
  rw [Nat.div_div_eq_div_mul, show B ^ k * B = B ^ (k + 1) from rfl] at this
  unfold lb
  rw [Nat.mul_comm (n / B ^ (k + 1))]; exact this.symm
theorem lt_of_div' {a b c : Nat} (h : a / c < b / c) : a < b := by
  rcases Nat.lt_or_ge a b with h' | h'
  · exact h'
  · have := Nat.div_le_div_right (c := c) h'; omega

set_option maxHeartbeats 8000000 in
theorem limb_Less (va vb : Value) (la lb' a b : Nat) (w0 : World) (ha : LimbAt w0 va la a) (hb : LimbAt w0 vb lb' b) : GivesAt Tryz.prog 120 #[va, vb] (.bool (decide (a < b))) w0 := by
  have hst := St.start [] w0
  have hda := fun (i : Nat) (w : World) (hst : Keeps [] w0 w) => limb_at va la a i w (ha.keep hst)
  have hdb := fun (i : Nat) (w : World) (hst : Keeps [] w0 w) => limb_at vb lb' b i w (hb.keep hst)
  obtain ⟨han, hla, aa, capa, _, _, _, _, rfl, _, _, _, _⟩ := ha
  obtain ⟨hbn, hlb, ab, capb, _, _, _, _, rfl, _, _, _, _⟩ := hb
  obtain ⟨mx, hmx⟩ : ∃ mx, mx = max la lb' := ⟨_, rfl⟩
  have hmx' : (if (lb' : Int) ≤ (la : Int) then (la : Int) else (lb' : Int)) = (mx : Int) := by split <;> omega
  have h1 : a < B ^ mx := Nat.lt_of_lt_of_le han (Nat.pow_le_pow_right B_pos (by omega))
  have h2 : b < B ^ mx := Nat.lt_of_lt_of_le hbn (Nat.pow_le_pow_right B_pos (by omega))
  have hmx2 : (max (la : Int) (lb' : Int)) = (mx : Int) := by omega
  have hmxl : mx ≤ 100000 := by omega
  go_enter Tryz.func120, Tryz.ntmps120
  go_wp2_with fail
  go_loopw [5] (fun vi wr => ∃ (t : Nat), t ≤ mx ∧ vi = .int .i64 ((t : Int) - 1) ∧ a / B ^ t = b / B ^ t ∧ St w0 [] [] wr) (fun vi _ => (intOf vi + 1).toNat)
  case atStart => exact ⟨mx, by omega, by go_num, by rw [Nat.div_eq_of_lt h1, Nat.div_eq_of_lt h2], hst⟩
  case round =>
    clear hst hmx hmx' hmx2
    obtain ⟨t, ht, rfl, he, hst⟩ := hrel
    cases t with
    | zero =>
      simp only [Nat.pow_zero, Nat.div_one] at he
      subst he
      have hc : decide (a < a) = false := by simp
      have hc' := Lib.hid hc
      clear hc h1 h2 han hbn
      go_wp2_with fail
      refine bp_t rfl rfl (by rfl) ⟨?_, hst.keeps⟩
      rw [hc'.out]; rfl
    | succ k =>
      have hdai := hda k
      have hdbi := hdb k
      have ea := div_lb a k
      have eb := div_lb b k
      rw [he] at ea
      have g1 : lb a k < lb b k → decide (a < b) = true := fun h => by
        have : a < b := lt_of_div' (c := B ^ k) (by omega)
        simpa using this
      have g2 : lb b k < lb a k → decide (a < b) = false := fun h => by
        have : b < a := lt_of_div' (c := B ^ k) (by omega)
        simp; omega
      have g3 : lb a k = lb b k → a / B ^ k = b / B ^ k := fun h => by omega
      generalize lb a k = x at *
      generalize lb b k = y at *
      have g1' := Lib.hid g1
      have g2' := Lib.hid g2
      have g3' := Lib.hid g3
      have h0 : (0 : Int) ≤ (k : Int) := by omega
      have ek : ((k + 1 : Nat) : Int) - 1 = (k : Int) := by omega
      rw [ek]
      have hk1 : k ≤ 100000 := by omega
      have hkm : k ≤ mx := by omega
      clear ea eb g1 g2 g3 he h1 h2 han hbn ek ht
      rcases Nat.lt_trichotomy x y with h | h | h
      · have t1 : ((x : Int) < (y : Int)) := by omega
        have t3 : ((x : Int) != (y : Int)) = true := by simp; omega
        have e := Lib.hid (g1'.out h)
        clear h
        go_wp2_with ((first | (refine kg gf130 hst (fun w hst => hdai w hst.keeps) rfl rfl rfl rfl ?_; clear hst; intro w hst) | (refine kg gf130 hst (fun w hst => hdbi w hst.keeps) rfl rfl rfl rfl ?_; clear hst; intro w hst)); try simp only [pz, pn, sz, sc])
        refine bp_t rfl rfl (by rfl) ⟨?_, hst.keeps⟩
        rw [e.out]; rfl
      · have e := Lib.hid (g3'.out h)
        subst h
        have t3 : ((x : Int) != (x : Int)) = false := by simp
        go_wp2_with ((first | (refine kg gf130 hst (fun w hst => hdai w hst.keeps) rfl rfl rfl rfl ?_; clear hst; intro w hst) | (refine kg gf130 hst (fun w hst => hdbi w hst.keeps) rfl rfl rfl rfl ?_; clear hst; intro w hst)); try simp only [pz, pn, sz, sc])
        go_roundw
        case rel => exact ⟨k, hkm, by go_num, e.out, hst⟩
        case measure => simp [intOf]
      · have t1 : ¬ ((x : Int) < (y : Int)) := by omega
        have t3 : ((x : Int) != (y : Int)) = true := by simp; omega
        have e := Lib.hid (g2'.out h)
        clear h
        go_wp2_with ((first | (refine kg gf130 hst (fun w hst => hdai w hst.keeps) rfl rfl rfl rfl ?_; clear hst; intro w hst) | (refine kg gf130 hst (fun w hst => hdbi w hst.keeps) rfl rfl rfl rfl ?_; clear hst; intro w hst)); try simp only [pz, pn, sz, sc])
        refine bp_t rfl rfl (by rfl) ⟨?_, hst.keeps⟩
        rw [e.out]; rfl

theorem bits_and1 (x : Nat) (hx : x < B) : bits .and .u64 (x : Int) 1 = ((x % 2 : Nat) : Int) := by
  have := bits_and_u64_nat x 1 (by rw [← B_val]; exact hx) (by omega)
  rw [Nat.and_one_is_mod] at this
  exact this
theorem lb_testBit (n i : Nat) (j : Nat) : (lb n i).testBit j = (decide (j < 64) && n.testBit (64 * i + j)) := by
  unfold lb
  rw [show B ^ i = 2 ^ (64 * i) from by rw [show B = 2 ^ 64 from rfl, ← Nat.pow_mul], show B = 2 ^ 64 from rfl, Nat.testBit_mod_two_pow, Nat.testBit_div_two_pow, Nat.add_comm]
theorem testBit_mod2 (n i : Nat) : (n / 2 ^ i % 2 = 1) = (n.testBit i = true) := by
  rw [Nat.testBit_eq_decide_div_mod_eq]; simp

set_option maxHeartbeats 2000000 in
theorem limb_Bit (v : Value) (l n i : Nat) (hi : i ≤ 100000) (w0 : World) (h : LimbAt w0 v l n) : GivesAt Tryz.prog 168 #[v, .int .i64 i] (.bool (n.testBit i)) w0 := by
  have hst := St.start [] w0
  have hda := fun (i : Nat) (w : World) (hst : Keeps [] w0 w) => limb_at v l n i w (h.keep hst)
  have hd1 := hda (i / 64)
  obtain ⟨x, hx⟩ : ∃ x, x = lb n (i / 64) := ⟨_, rfl⟩
  have hxB : x < B := by rw [hx]; exact lb_lt _ _
  obtain ⟨y, hy⟩ : ∃ y, y = x / 2 ^ (i % 64) := ⟨_, rfl⟩
  have hyB : y < B := by rw [hy]; exact Nat.lt_of_le_of_lt (Nat.div_le_self _ _) hxB
  have hand := bits_and1 y hyB
  have hres : ((y : Int) % 2 == 1) = n.testBit i := by
    have e : n.testBit i = x.testBit (i % 64) := by
      rw [hx, lb_testBit, show 64 * (i / 64) + i % 64 = i by omega]
      have : i % 64 < 64 := by omega
      simp [this]
    rw [e, Bool.eq_iff_iff, ← testBit_mod2, ← hy]
    simp; omega
  obtain ⟨q, hq⟩ : ∃ q, q = i / 64 := ⟨_, rfl⟩
  obtain ⟨r, hr⟩ : ∃ r, r = i % 64 := ⟨_, rfl⟩
  have Q1 : (i : Int) / 64 = (q : Int) := by omega
  have Q2 : (i : Int) % 64 = (r : Int) := by omega
  have Q3 : (0 : Int) ≤ (i : Int) := by omega
  have Q4 : (0 : Int) ≤ (r : Int) := by omega
  have Q5 : (i : Int).tdiv 64 = (q : Int) := by rw [Int.tdiv_eq_ediv_of_nonneg (by omega)]; exact Q1
  have Q6 : (i : Int).tmod 64 = (r : Int) := by rw [Int.tmod_eq_emod_of_nonneg (by omega)]; exact Q2
  have hy' : (x : Int) / 2 ^ r = (y : Int) := by rw [hy, ← hr, cast_pow2]; omega
  rw [← hx, ← hq] at hd1
  have hqs : q ≤ 100000 := by omega
  have hrs : r < 64 := by omega
  have hres' := Lib.hid hres
  clear hres hx hxB hy hyB hq hr h hda
  go_enter Tryz.func168, Tryz.ntmps168
  go_wp2_with ((first | (refine kg gf130 hst (fun w hst => hd1 w hst.keeps) rfl rfl rfl rfl ?_; clear hst; intro w hst) | (refine wl_guard (by rfl) ?_)); try simp only [pz, pn, sz, sc])
  refine bp_t rfl rfl (by rfl) ⟨?_, hst.keeps⟩
  rw [hres'.out]; rfl

/-- What wide.at tells. -/
def wat (n : Nat) (i : Int) (y : Nat) : Nat := if i < 0 then 0 else if 8 ≤ i then y else lb n i.toNat
theorem wat_lt (n : Nat) (i : Int) (y : Nat) (hy : y < B) : wat n i y < B := by
  unfold wat; split
  · exact B_pos
  · split
    · exact hy
    · exact lb_lt _ _

theorem wide_at (n : Nat) (i : Int) (y : Nat) : Gives Tryz.prog 124 #[W n, .int .i64 i, .int .u64 y] (.int .u64 (wat n i y : Nat)) := by
  intro w0
  have hst := St.start [] w0
  by_cases h1 : i < 0
  · have e : wat n i y = 0 := by unfold wat; rw [if_pos h1]
    rw [e]
    go_enter Tryz.func124, Tryz.ntmps124
    go_wp2_with ((first | (refine kb 3 hst rfl rfl ?_; clear hst; intro b3 w hb3 hst) | (refine kc hst tc22 rfl ?_)); try simp only [pz, pn, sz, sc])
    refine bp_t rfl rfl (by rfl) ⟨?_, hst.keeps⟩
    rfl
  · by_cases h2 : 8 ≤ i
    · have e : wat n i y = y := by unfold wat; rw [if_neg h1, if_pos h2]
      rw [e]
      go_enter Tryz.func124, Tryz.ntmps124
      go_wp2_with ((first | (refine kb 3 hst rfl rfl ?_; clear hst; intro b3 w hb3 hst) | (refine kc hst tc22 rfl ?_)); try simp only [pz, pn, sz, sc])
      refine bp_t rfl rfl (by rfl) ⟨?_, hst.keeps⟩
      rfl
    · obtain ⟨j, rfl⟩ := Int.eq_ofNat_of_zero_le (show 0 ≤ i by omega)
      have e : wat n (j : Int) y = lb n j := by unfold wat; rw [if_neg h1, if_neg h2]; rfl
      rw [e]
      have h3 : (0 : Int) ≤ (j : Int) := by omega
      have h4 : (j : Int) < 8 := by omega
      have h5 : j < 8 := by omega
      clear e
      go_enter Tryz.func124, Tryz.ntmps124
      go_wp2_with ((first | (refine kb 3 hst rfl rfl ?_; clear hst; intro b3 w hb3 hst) | (refine kc hst tc22 rfl ?_)); try simp only [pz, pn, sz, sc])
      refine bp_t rfl rfl (by rfl) ⟨?_, hst.keeps⟩
      rfl

/-- By how much a number is shifted. -/
def clampN (n : Int) : Nat := if n < 0 then 0 else if 512 < n then 512 else n.toNat
theorem clampN_le (n : Int) : clampN n ≤ 512 := by unfold clampN; split <;> (try split) <;> omega
theorem clampN_nat (n : Nat) (h : n ≤ 512) : clampN n = n := by unfold clampN; rw [if_neg (by omega), if_neg (by omega)]; omega

theorem wide_clamp (n : Int) : Gives Tryz.prog 121 #[.int .i64 n] (.int .i64 (clampN n : Nat)) := by
  intro w0
  have hst := St.start [] w0
  obtain ⟨c, hc⟩ : ∃ c, c = clampN n := ⟨_, rfl⟩
  rw [← hc]
  by_cases h1 : n ≤ 512
  · have m1 : (if n ≤ 512 then n else 512) = n := by rw [if_pos h1]
    have m1' : (if (512 : Int) < n then 512 else n) = n := by rw [if_neg (by omega)]
    have m2 : min n 512 = n := by omega
    by_cases h2 : n ≤ 0
    · have m4 : max 0 n = (c : Int) := by rw [hc]; unfold clampN; split <;> (try split) <;> omega
      have e0 : c = 0 := by omega
      have hc' := Lib.hid hc
      clear hc
      subst e0
      go_enter Tryz.func121, Tryz.ntmps121
      go_wp2_with fail
      refine bp_t rfl rfl (by rfl) ⟨?_, hst.keeps⟩
      go_num
    · have m4 : max 0 n = (c : Int) := by rw [hc]; unfold clampN; split <;> (try split) <;> omega
      have e0 : n = (c : Int) := by omega
      clear hc
      subst e0
      go_enter Tryz.func121, Tryz.ntmps121
      go_wp2_with fail
      refine bp_t rfl rfl (by rfl) ⟨?_, hst.keeps⟩
      go_num
  · have m2 : min n 512 = 512 := by omega
    have e0 : c = 512 := by rw [hc]; unfold clampN; rw [if_neg (by omega), if_pos (by omega)]
    clear hc
    subst e0
    go_enter Tryz.func121, Tryz.ntmps121
    go_wp2_with fail
    refine bp_t rfl rfl (by rfl) ⟨?_, hst.keeps⟩
    go_num

theorem LimbAt.wide {w : World} {b n : Nat} {E : TypeId} {fr : Nat × Nat} (hn : n < M) (h : w.heap[b]? = some (.cells (wc 8 n) E fr)) : LimbAt w (.slice (some ⟨b, 0, none⟩) 8 8) 8 n :=
  ⟨hn, by omega, b, 8, 8, n, E, fr, rfl, by omega, by omega, h, Nat.mod_eq_of_lt hn⟩

set_option maxHeartbeats 2000000 in
theorem wide_Cmp (a b : Nat) (ha : a < M) (hb : b < M) : Gives Tryz.prog 114 #[W a, W b] (.int .i64 (cmp a b)) := by
  intro w0
  have hst := St.start [] w0
  have hless := fun (b2 b3 : Nat) (w : World) (h2 : w.heap[b2]? = some (.cells (wc 8 a) 24)) (h3 : w.heap[b3]? = some (.cells (wc 8 b) 24)) => limb_Less _ _ 8 8 a b w (LimbAt.wide ha h2) (LimbAt.wide hb h3)
  by_cases h : a = b
  · subst h
    have e : cmp a a = 0 := by simp [cmp]
    rw [e]
    clear hless e
    have hd := decide_eq_true (show a = a from rfl)
    go_enter Tryz.func114, Tryz.ntmps114
    go_wp2_with ((first | (refine kb 2 hst rfl rfl ?_; clear hst; intro b2 w hb2 hst) | (refine kb 3 hst rfl rfl ?_; clear hst; intro b3 w hb3 hst) | (refine kl hst ta24 rfl ?_) | (refine klm hst ta24 rfl ?_) | (refine ke tr24 tc22 rfl ?_)); try simp only [pz, pn, sz, sc])
    refine bp_t rfl rfl (by rfl) ⟨?_, hst.keeps⟩
    rfl
  · have hd := decide_eq_false h
    by_cases hl : a < b
    · have e : cmp a b = -1 := by unfold cmp; rw [if_pos hl]
      rw [e]
      have hd2 := decide_eq_true hl
      rw [hd2] at hless
      clear e h hl hd2
      go_enter Tryz.func114, Tryz.ntmps114
      go_wp2_with ((first | (refine kb 2 hst rfl rfl ?_; clear hst; intro b2 w hb2 hst) | (refine kb 3 hst rfl rfl ?_; clear hst; intro b3 w hb3 hst) | (refine kl hst ta24 rfl ?_) | (refine klm hst ta24 rfl ?_) | (refine ke tr24 tc22 rfl ?_)); try simp only [pz, pn, sz, sc])
      refine wp_region_T 4  hst (by kernel_rfl) ?_; clear hst; intro w hst; (try dsimp only [List.length_cons, List.length_nil]); (try simp only [List.length_cons, List.length_nil, Nat.reduceAdd, Array.replicate_succ, Array.replicate_zero, List.push_toArray, List.nil_append, List.cons_append])
      refine r0 0 ?_; simp only [pz, pn, sz, sc]
      refine r0 1 ?_; simp only [pz, pn, sz, sc]
      refine r1 2 ?_; (first | (refine kg gf120 hst (fun w hst => hless b2 b3 w (hst.own _ _ (by repeat (first | exact List.Mem.head _ | refine List.Mem.tail _ ?_))) (hst.own _ _ (by repeat (first | exact List.Mem.head _ | refine List.Mem.tail _ ?_)))) rfl rfl rfl rfl ?_; clear hst; intro w hst) | (refine kp ?_)); (try simp only [pz, pn, sz, sc]); refine re ?_
      refine r0 3 ?_; simp only [pz, pn, sz, sc]
      refine rd_ ?_
      go_wp2_with ((first | (refine kb 2 hst rfl rfl ?_; clear hst; intro b2 w hb2 hst) | (refine kb 3 hst rfl rfl ?_; clear hst; intro b3 w hb3 hst) | (refine kl hst ta24 rfl ?_) | (refine klm hst ta24 rfl ?_) | (refine ke tr24 tc22 rfl ?_)); try simp only [pz, pn, sz, sc])
      refine bp_t rfl rfl (by rfl) ⟨?_, hst.keeps⟩
      rfl
    · have e : cmp a b = 1 := by unfold cmp; rw [if_neg hl, if_pos (by omega)]
      rw [e]
      have hd2 := decide_eq_false hl
      rw [hd2] at hless
      clear e h hl hd2
      go_enter Tryz.func114, Tryz.ntmps114
      go_wp2_with ((first | (refine kb 2 hst rfl rfl ?_; clear hst; intro b2 w hb2 hst) | (refine kb 3 hst rfl rfl ?_; clear hst; intro b3 w hb3 hst) | (refine kl hst ta24 rfl ?_) | (refine klm hst ta24 rfl ?_) | (refine ke tr24 tc22 rfl ?_)); try simp only [pz, pn, sz, sc])
      refine wp_region_T 4  hst (by kernel_rfl) ?_; clear hst; intro w hst; (try dsimp only [List.length_cons, List.length_nil]); (try simp only [List.length_cons, List.length_nil, Nat.reduceAdd, Array.replicate_succ, Array.replicate_zero, List.push_toArray, List.nil_append, List.cons_append])
      refine r0 0 ?_; simp only [pz, pn, sz, sc]
      refine r0 1 ?_; simp only [pz, pn, sz, sc]
      refine r1 2 ?_; (first | (refine kg gf120 hst (fun w hst => hless b2 b3 w (hst.own _ _ (by repeat (first | exact List.Mem.head _ | refine List.Mem.tail _ ?_))) (hst.own _ _ (by repeat (first | exact List.Mem.head _ | refine List.Mem.tail _ ?_)))) rfl rfl rfl rfl ?_; clear hst; intro w hst) | (refine kp ?_)); (try simp only [pz, pn, sz, sc]); refine re ?_
      refine r0 3 ?_; simp only [pz, pn, sz, sc]
      refine rd_ ?_
      go_wp2_with ((first | (refine kb 2 hst rfl rfl ?_; clear hst; intro b2 w hb2 hst) | (refine kb 3 hst rfl rfl ?_; clear hst; intro b3 w hb3 hst) | (refine kl hst ta24 rfl ?_) | (refine klm hst ta24 rfl ?_) | (refine ke tr24 tc22 rfl ?_)); try simp only [pz, pn, sz, sc])
      refine bp_t rfl rfl (by rfl) ⟨?_, hst.keeps⟩
      rfl

theorem wide_Len (a : Nat) (ha : a < M) : Gives Tryz.prog 113 #[W a] (.int .i64 (bl a : Nat)) := by
  intro w0
  have hst := St.start [] w0
  have hlen := fun (b1 : Nat) (w : World) (h : w.heap[b1]? = some (.cells (wc 8 a) 24)) => limb_Len b1 0 8 8 8 a 24 (0, 0) (by omega) (by omega) (by omega) w h
  rw [Nat.pow_zero, Nat.div_one, ← M_eq, Nat.mod_eq_of_lt ha] at hlen
  go_enter Tryz.func113, Tryz.ntmps113
  go_wp2_with ((first | (refine kg gf119 hst (fun w hst => hlen b1 w (hst.own _ _ (by repeat (first | exact List.Mem.head _ | refine List.Mem.tail _ ?_)))) rfl rfl rfl rfl ?_; clear hst; intro w hst) | (refine kb 1 hst rfl rfl ?_; clear hst; intro b1 w hb1 hst)); try simp only [pz, pn, sz, sc])
  refine bp_t rfl rfl (by rfl) ⟨?_, hst.keeps⟩
  rfl

theorem wide_Bit (a i : Nat) (ha : a < M) (hi : i ≤ 100000) : Gives Tryz.prog 157 #[W a, .int .i64 i] (.bool (a.testBit i)) := by
  intro w0
  have hst := St.start [] w0
  have hlen := fun (b1 : Nat) (w : World) (h : w.heap[b1]? = some (.cells (wc 8 a) 24)) => limb_Bit _ 8 a i hi w (LimbAt.wide ha h)
  go_enter Tryz.func157, Tryz.ntmps157
  go_wp2_with ((first | (refine kg gf168 hst (fun w hst => hlen b2 w (hst.own _ _ (by repeat (first | exact List.Mem.head _ | refine List.Mem.tail _ ?_)))) rfl rfl rfl rfl ?_; clear hst; intro w hst) | (refine kb 2 hst rfl rfl ?_; clear hst; intro b2 w hb2 hst)); try simp only [pz, pn, sz, sc])
  refine bp_t rfl rfl (by rfl) ⟨?_, hst.keeps⟩
  rfl

/-- Is a number, taken with a sign, below 0? -/
def minusB (a : Nat) : Bool := a.testBit 511
theorem wide_Minus (a : Nat) (ha : a < M) : Gives Tryz.prog 143 #[W a] (.bool (minusB a)) := by
  intro w0
  have hst := St.start [] w0
  have h := wide_Bit a 511 ha (by omega)
  go_enter Tryz.func143, Tryz.ntmps143
  go_wp2_with ((first | (refine kf gf157 hst (h) rfl rfl rfl rfl ?_; clear hst; intro w hst) | (refine kb 1 hst rfl rfl ?_; clear hst; intro b1 w hb1 hst) | (refine kl hst ta24 rfl ?_) | (refine klm hst ta24 rfl ?_)); try simp only [pz, pn, sz, sc])
  refine bp_t rfl rfl (by rfl) ⟨?_, hst.keeps⟩
  rfl

theorem wide_Neg (a : Nat) (ha : a < M) : Gives Tryz.prog 167 #[W a] (W ((M - a) % M)) := by
  intro w0
  have hst := St.start [] w0
  have h := wide_Sub 0 a (by decide) ha
  rw [Nat.zero_add, W_zero] at h
  go_enter Tryz.func167, Tryz.ntmps167
  go_wp2_with ((first | (refine kf gf116 hst (h) rfl rfl rfl rfl ?_; clear hst; intro w hst) | (refine kb 1 hst rfl rfl ?_; clear hst; intro b1 w hb1 hst) | (refine ka 2 hst tz24 rfl rfl ?_; clear hst; intro b2 w hb2 hst) | (refine kl hst ta24 rfl ?_) | (refine klm hst ta24 rfl ?_) | (refine ka 3 hst tz24 rfl rfl ?_; clear hst; intro b3 w hb3 hst) | (refine kt hst ta24 rfl rfl ?_; clear hst; intro w hst) | (refine ktm hst ta24 rfl rfl ?_; clear hst; intro w hst)); try simp only [pz, pn, sz, sc])
  refine bp_c rfl rfl (la hst ta24) ⟨?_, hst.keeps⟩
  rfl

end Go.Proofs.YtmkeaedpfmblgaaGreat.Rd
