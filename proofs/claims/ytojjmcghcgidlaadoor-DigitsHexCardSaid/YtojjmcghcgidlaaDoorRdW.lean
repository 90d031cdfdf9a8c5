/- The reference's numbers: digits by 2^32 in a slice; what digit and trim answer. -/
import Derived.Test.YtojjmcghcgidlaaDoorRdJ
namespace Go.Proofs.YtojjmcghcgidlaaDoor.Rd
open Go Go.RowKit
set_option linter.unusedVariables false
set_option linter.unusedSimpArgs false
set_option maxRecDepth 100000

def C : Nat := 4294967296
theorem C_val : C = 4294967296 := rfl
theorem C_pos : 0 < C := by decide
theorem Cp_pos (k : Nat) : 0 < C ^ k := Nat.pow_pos C_pos
theorem C_pow (k : Nat) : C ^ k = 2 ^ (32 * k) := by rw [show C = 2 ^ 32 from rfl, ← Nat.pow_mul]
/-- A digit by 2^32. -/
def dg (n i : Nat) : Nat := n / C ^ i % C
theorem dg_lt (n i : Nat) : dg n i < C := Nat.mod_lt _ C_pos
theorem dg_lt' (n i : Nat) : dg n i < 4294967296 := dg_lt n i
/-- How many digits by 2^32. -/
def dl (n : Nat) : Nat := (bl n + 31) / 32
theorem dl_le {n l : Nat} : dl n ≤ l ↔ n < C ^ l := by
  rw [C_pow, ← bl_le]; unfold dl; omega
theorem dl_lt (n : Nat) : n < C ^ dl n := dl_le.1 (Nat.le_refl _)
theorem dl_zero : dl 0 = 0 := rfl
theorem dl_eq {n l : Nat} (h1 : n < C ^ l) (h2 : l = 0 ∨ C ^ (l - 1) ≤ n) : dl n = l := by
  have h3 := dl_le.2 h1
  rcases h2 with h | h
  · omega
  · by_cases h4 : dl n ≤ l - 1
    · have := dl_le.1 h4; omega
    · omega
theorem dl_pos {n : Nat} : 0 < dl n ↔ 0 < n := by
  constructor
  · intro h
    rcases Nat.eq_zero_or_pos n with h0 | h0
    · subst h0; simp [dl_zero] at h
    · exact h0
  · intro h
    rcases Nat.eq_zero_or_pos (dl n) with h0 | h0
    · have := dl_lt n; rw [h0] at this; simp at this; omega
    · exact h0
theorem dg_ge {n l i : Nat} (h : n < C ^ l) (hi : l ≤ i) : dg n i = 0 := by
  unfold dg
  rw [Nat.div_eq_of_lt (Nat.lt_of_lt_of_le h (Nat.pow_le_pow_right C_pos hi))]; rfl
theorem lt_down {n k : Nat} (h : n < C ^ (k + 1)) (h0 : dg n k = 0) : n < C ^ k := by
  unfold dg at h0
  have h1 : n / C ^ k < C := by rw [Nat.div_lt_iff_lt_mul (Cp_pos k), ← Nat.pow_succ']; exact h
  rw [Nat.mod_eq_of_lt h1] at h0
  exact (Nat.div_eq_zero_iff_lt (Cp_pos k)).1 h0
theorem ge_top {n k : Nat} (h0 : dg n k ≠ 0) : C ^ k ≤ n := by
  rcases Nat.lt_or_ge n (C ^ k) with h | h
  · exact absurd (dg_ge h (Nat.le_refl k)) h0
  · exact h
theorem dg_split (n k : Nat) : n % C ^ (k + 1) = n % C ^ k + dg n k * C ^ k := by
  unfold dg
  rw [Nat.pow_succ, Nat.mod_mul, Nat.mul_comm (C ^ k)]

/-- The slice v of l digits holds n. -/
def BigAt (w : World) (v : Value) (l n : Nat) : Prop :=
  n < C ^ l ∧ l ≤ 1000000 ∧ ∃ a cap, v = .slice a l cap ∧ l ≤ cap ∧ (0 < l → ∃ g cur E, a = some ⟨g, 0, none⟩ ∧ w.heap[g]? = some (.cells cur E (0, 0)) ∧ ∀ j, j < l → cur[j]? = some (.int .u32 (dg n j : Nat)))
theorem BigAt.keep {w w' : World} {v : Value} {l n : Nat} (h : BigAt w v l n) (k : Keeps [] w w') : BigAt w' v l n := by
  obtain ⟨h1, h2, a, cap, h3, h4, h5⟩ := h
  refine ⟨h1, h2, a, cap, h3, h4, fun h0 => ?_⟩
  obtain ⟨g, cur, E, h6, h7, h8⟩ := h5 h0
  refine ⟨g, cur, E, h6, ?_, h8⟩
  rw [k.block g _ (by simp)]
  · exact h7
  · rcases Nat.lt_or_ge g w.heap.size with h | h
    · exact h
    · rw [Array.getElem?_eq_none h] at h7; cases h7

set_option maxHeartbeats 1000000 in
theorem ref01_digit (v : Value) (l n i : Nat) (hi : i ≤ 1000000) (w0 : World) (h : BigAt w0 v l n) : GivesAt Tryd.prog 44 #[v, .int .i64 i] (.int .u64 (dg n i : Nat)) w0 := by
  obtain ⟨hn, hl, a, cap, rfl, hcap, hmem⟩ := h
  by_cases hil : i < l
  · obtain ⟨g, cur, E, rfl, hg, hc⟩ := hmem (by omega)
    have hst := (St.start [] w0).add hg (by simp)
    have h1 : (0 : Int) ≤ (i : Int) := by omega
    have h2 : (i : Int) < (l : Int) := by omega
    have h3 := hc i hil
    have h4 := dg_lt' n i
    generalize dg n i = d at *
    have h5 : (0 : Int) ≤ (d : Int) := by omega
    have h6 : (d : Int) < 4294967296 := by omega
    have hw : IntKind.u64.wrap (d : Int) = (d : Int) := by rw [u64_wrap, Nat.mod_eq_of_lt (by rw [B_val]; omega)]
    clear hg hc hmem hn h4 h6
    go_enter Tryd.func44, Tryd.ntmps44
    go_wp2_with ((first | (refine wl_guard (by rfl) ?_) | (refine kc hst tc48 rfl ?_)); try simp only [pz, pn, sz, sc])
    refine bp_t rfl rfl (by rfl) ⟨?_, hst.keeps⟩
    rfl
  · have hst := St.start [] w0
    have h1 : (0 : Int) ≤ (i : Int) := by omega
    have h2 : (l : Int) ≤ (i : Int) := by omega
    rw [dg_ge hn (by omega)]
    clear hn hmem
    go_enter Tryd.func44, Tryd.ntmps44
    go_wp2_with ((first | (refine wl_guard (by rfl) ?_) | (refine kc hst tc48 rfl ?_)); try simp only [pz, pn, sz, sc])
    refine bp_t rfl rfl (by rfl) ⟨?_, hst.keeps⟩
    rfl

set_option maxHeartbeats 1000000 in
theorem ref01_trim (a : Option Addr) (l cap n : Nat) (w0 : World) (h : BigAt w0 (.slice a l cap) l n) : GivesAt Tryd.prog 43 #[.slice a l cap] (.slice a (dl n) cap) w0 := by
  obtain ⟨hn, hl, a', cap', e, hcap, hmem⟩ := h
  injection e with e1 e2 e3
  subst e1
  subst e3
  by_cases hl0 : 0 < l
  · obtain ⟨g, cur, E, rfl, hg, hc⟩ := hmem hl0
    have hst := (St.start [] w0).add hg (by simp)
    have hc' := Lib.hid hc
    have hn' := Lib.hid hn
    clear hc hg hn
    go_enter Tryd.func43, Tryd.ntmps43
    go_wp2_with ((first | (refine wl_guard (by rfl) ?_) | (refine kc hst tc48 rfl ?_)); try simp only [pz, pn, sz, sc])
    go_loopw [3] (fun j wr => ∃ i : Nat, i ≤ l ∧ j = .int .i64 i ∧ n < C ^ i ∧ St w0 [] [(g, .cells cur E (0, 0))] wr) (fun j _ => (intOf j).toNat)
    case atStart => exact ⟨l, by omega, rfl, hn'.out, hst⟩
    case round =>
      clear hst
      obtain ⟨i, hi, rfl, ht, hst⟩ := hrel
      by_cases h0 : 0 < i
      · obtain ⟨j, rfl⟩ : ∃ j, i = j + 1 := ⟨i - 1, by omega⟩
        have e1 : ((j + 1 : Nat) : Int) = (j : Int) + 1 := by omega
        rw [e1]
        have h1 : (0 : Int) ≤ (j : Int) := by omega
        have h3 : (j : Int) < (l : Int) := by omega
        have hcj := hc'.out j (by omega)
        by_cases hz : dg n j = 0
        · have hz' : ((dg n j : Int) == 0) = true := by simp [hz]
          have hlt := Lib.hid (lt_down ht hz)
          clear ht hz
          go_wp2_with ((first | (refine wl_guard (by rfl) ?_) | (refine kc hst tc48 rfl ?_)); try simp only [pz, pn, sz, sc])
          go_roundw
          case rel => exact ⟨j, by omega, by go_num, hlt.out, hst⟩
          case measure => simp [intOf]
        · have hz' : ((dg n j : Int) == 0) = false := by simp [hz]
          have e := Lib.hid (dl_eq ht (.inr (ge_top hz)))
          have h4 : ((j : Int) + 1) ≤ (cap : Int) := by omega
          clear ht hz
          go_wp2_with ((first | (refine wl_guard (by rfl) ?_) | (refine kc hst tc48 rfl ?_)); try simp only [pz, pn, sz, sc])
          refine bp_t rfl rfl (by rfl) ⟨?_, hst.keeps⟩
          rw [e.out]; rfl
      · have : i = 0 := by omega
        subst this
        have e := Lib.hid (dl_eq ht (.inl rfl))
        clear ht
        go_wp2_with ((first | (refine wl_guard (by rfl) ?_) | (refine kc hst tc48 rfl ?_)); try simp only [pz, pn, sz, sc])
        refine bp_t rfl rfl (by rfl) ⟨?_, hst.keeps⟩
        rw [e.out]; rfl
  · have : l = 0 := by omega
    subst this
    have hst := St.start [] w0
    have e := Lib.hid (dl_eq hn (.inl rfl))
    clear hmem hn
    go_enter Tryd.func43, Tryd.ntmps43
    go_wp2_with ((first | (refine wl_guard (by rfl) ?_) | (refine kc hst tc48 rfl ?_)); try simp only [pz, pn, sz, sc])
    refine wp_loop_once ?_
    go_wp2_with ((first | (refine wl_guard (by rfl) ?_) | (refine kc hst tc48 rfl ?_)); try simp only [pz, pn, sz, sc])
    refine bp_t rfl rfl (by rfl) ⟨?_, hst.keeps⟩
    rw [e.out]; rfl

end Go.Proofs.YtojjmcghcgidlaaDoor.Rd
