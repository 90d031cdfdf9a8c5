/- What limb.Mul, trim, Len, wide.Of, Power and the layer prod answer, as numbers. -/
import Derived.Test.YtojjmcghcgidlaaDoorRdD
import Derived.Test.YtojjmcghcgidlaaDoorRdS
import Derived.Lib.Hide
namespace Go.Proofs.YtojjmcghcgidlaaDoor.Rd
open Go Go.RowKit
set_option linter.unusedVariables false
set_option linter.unusedSimpArgs false
set_option maxRecDepth 100000

set_option maxHeartbeats 1000000 in
theorem limb_Mul (x y : Nat) (hx : x < B) (hy : y < B) : Gives Tryd.prog 85 #[.int .u64 x, .int .u64 y] (.tuple #[.int .u64 (x * y / B : Nat), .int .u64 (x * y % B : Nat)]) := by
  intro w0
  have hst := St.start [] w0
  have hm : Gives Tryd.prog 94 #[.int .u64 x, .int .u64 y] (.tuple #[.int .u64 (x * y / B : Nat), .int .u64 (x * y % B : Nat)]) := Gives.of_same (Tryd.bits_Mul64 x y hx hy)
  go_enter Tryd.func85, Tryd.ntmps85
  go_wp2_with ((first | (refine kf gf94 hst (hm) rfl rfl rfl rfl ?_; clear hst; intro w hst)); try simp only [pz, pn, sz, sc])
  refine bp_tt rfl rfl (by rfl) (by rfl) ⟨?_, hst.keeps⟩
  rfl

set_option maxHeartbeats 1000000 in
theorem limb_trim (b o len cap k n : Nat) (E : TypeId) (fr : Nat × Nat) (hk : o + len ≤ k) (hcap : len ≤ cap) (hm : len ≤ 9223372036854775807) (w0 : World) (hb : w0.heap[b]? = some (.cells (wc k n) E fr)) :
    GivesAt Tryd.prog 87 #[.slice (some ⟨b, o, none⟩) len cap] (.slice (some ⟨b, o, none⟩) (tl n o len) (tl n o len)) w0 := by
  have hst := (St.start [] w0).add hb (by simp)
  clear hb
  go_enter Tryd.func87, Tryd.ntmps87
  go_wp2_with ((first | (refine wl_guard (by rfl) ?_) | (refine kc hst tc22 rfl ?_)); try simp only [pz, pn, sz, sc])
  go_loopw [3] (fun j wr => ∃ i : Nat, i ≤ len ∧ j = .int .i64 i ∧ tl n o i = tl n o len ∧ St w0 [] [(b, .cells (wc k n) E fr)] wr) (fun j _ => (intOf j).toNat)
  case atStart => exact ⟨len, by omega, rfl, rfl, hst⟩
  case round =>
    clear hst
    obtain ⟨i, hi, rfl, ht, hst⟩ := hrel
    by_cases h0 : 0 < i
    · obtain ⟨j, rfl⟩ : ∃ j, i = j + 1 := ⟨i - 1, by omega⟩
      have e1 : ((j + 1 : Nat) : Int) = (j : Int) + 1 := by omega
      rw [e1]
      have h1 : (0 : Int) ≤ (j : Int) := by omega
      have h3 : (j : Int) < (len : Int) := by omega
      by_cases hz : lb n (o + j) = 0
      · have hz' : ((lb n (o + j) : Int) == 0) = true := by simp [hz]
        go_wp2_with ((first | (refine wl_guard (by rfl) ?_) | (refine kc hst tc22 rfl ?_)); try simp only [pz, pn, sz, sc])
        go_roundw
        case rel => exact ⟨j, by omega, by go_num, by rw [← ht]; simp [tl, hz], hst⟩
        case measure => simp [intOf]
      · have hz' : ((lb n (o + j) : Int) == 0) = false := by simp [hz]
        have e : tl n o len = j + 1 := by rw [← ht]; simp [tl, hz]
        go_wp2_with ((first | (refine wl_guard (by rfl) ?_) | (refine kc hst tc22 rfl ?_)); try simp only [pz, pn, sz, sc])
        refine bp_t rfl rfl (by rfl) ⟨?_, hst.keeps⟩
        rw [e]; rfl
    · have : i = 0 := by omega
      subst this
      have e : tl n o len = 0 := by rw [← ht]; rfl
      go_wp2_with ((first | (refine wl_guard (by rfl) ?_) | (refine kc hst tc22 rfl ?_)); try simp only [pz, pn, sz, sc])
      refine bp_t rfl rfl (by rfl) ⟨?_, hst.keeps⟩
      rw [e]; rfl

theorem bits_Len64 (x : Nat) (hx : x < B) : Gives Tryd.prog 84 #[.int .u64 x] (.int .i64 (bl x : Nat)) := by
  have h := Gives.of_same fun w => Tryd.bits_Len64 (x : Int) w (by omega) (by rw [B_val] at hx; omega)
  rw [Int.toNat_natCast, lib_bitLen x hx] at h
  exact h

set_option maxHeartbeats 1000000 in
theorem limb_Len (b o len cap k n : Nat) (E : TypeId) (fr : Nat × Nat) (hk : o + len ≤ k) (hcap : len ≤ cap) (hm : len ≤ 100000) (w0 : World) (hb : w0.heap[b]? = some (.cells (wc k n) E fr)) :
    GivesAt Tryd.prog 72 #[.slice (some ⟨b, o, none⟩) len cap] (.int .i64 (bl (n / B ^ o % B ^ len) : Nat)) w0 := by
  have hst := (St.start [] w0).add hb (by simp)
  have htl := tl_le n o len
  have htrim := limb_trim b o len cap k n E fr hk hcap (by omega)
  have hlen := bits_Len64 (lb n (o + (tl n o len - 1))) (lb_lt _ _)
  have hbl := bl_tl n o len
  clear hb
  by_cases h0 : tl n o len = 0
  · have h0' : ((tl n o len : Int) == 0) = true := by simp [h0]
    have e : bl (n / B ^ o % B ^ len) = 0 := by rw [hbl, if_pos h0]
    rw [e]
    clear e hbl hlen htl
    go_enter Tryd.func72, Tryd.ntmps72
    go_wp2_with ((first | (refine kg gf87 hst (fun w hst => htrim w (hst.own _ _ (by simp))) rfl rfl rfl rfl ?_; clear hst; intro w hst) | (refine kc hst tc22 rfl ?_)); try simp only [pz, pn, sz, sc])
    refine bp_t rfl rfl (by rfl) ⟨?_, hst.keeps⟩
    rfl
  · have h0' : ((tl n o len : Int) == 0) = false := by simp [h0]
    obtain ⟨t, ht⟩ : ∃ t, tl n o len = t + 1 := ⟨tl n o len - 1, by omega⟩
    have e : bl (n / B ^ o % B ^ len) = 64 * t + bl (lb n (o + t)) := by rw [hbl, if_neg h0, ht]; rfl
    have hb2 := bl_lt (lb n (o + t)) 64 (lb_lt _ _)
    rw [e]
    rw [ht] at htrim h0' hlen
    simp only [Nat.add_sub_cancel] at hlen
    have e1 : ((t + 1 : Nat) : Int) = (t : Int) + 1 := by omega
    rw [e1] at h0'
    have htl' : t < 100000 := by omega
    have hot : o + t < k := by omega
    clear hbl e h0 ht e1 htl
    have h1 : (0 : Int) ≤ (t : Int) := by omega
    have h3 : (t : Int) < (t : Int) + 1 := by omega
    go_enter Tryd.func72, Tryd.ntmps72
    go_wp2_with ((first | (refine kg gf87 hst (fun w hst => htrim w (hst.own _ _ (by simp))) rfl rfl rfl rfl ?_; clear hst; intro w hst) | (refine kf gf84 hst (hlen) rfl rfl rfl rfl ?_; clear hst; intro w hst) | (refine kc hst tc22 rfl ?_)); try simp only [pz, pn, sz, sc])
    refine bp_t rfl rfl (by rfl) ⟨?_, hst.keeps⟩
    go_num

set_option maxHeartbeats 1000000 in
theorem wide_Of (b o len cap k n : Nat) (E : TypeId) (fr : Nat × Nat) (hk : o + len ≤ k) (w0 : World) (hb : w0.heap[b]? = some (.cells (wc k n) E fr)) :
    GivesAt Tryd.prog 41 #[.slice (some ⟨b, o, none⟩) len cap] (W (n / B ^ o % B ^ (min len 8))) w0 := by
  have hst := (St.start [] w0).add hb (by simp)
  clear hb
  go_enter Tryd.func41, Tryd.ntmps41
  have hcl := cut_len k n o (min len 8) (by omega)
  have hcg := cut_get k n o (min len 8)
  have hc1 := cut_one k n o (min len 8)
  have hcw := wc_copy k n o (min len 8) (by omega) (by omega)
  generalize hcs : ((wc k n).toList.drop o).take (min len 8) = cs at hcl hcg hc1 hcw
  clear hcs
  have hcl' : Hid (cs.length = Nat.min len 8) := hcl
  have hcw' := Lib.hid hcw
  have hcg' := Lib.hid hcg
  clear hcl hcw hcg
  go_wp2_with ((first | (refine wl_copy (cs := cs) hst ts77 te22 rfl rfl (by rfl) (by rfl) (by repeat (first | exact List.Mem.head _ | refine List.Mem.tail _ ?_)) hcl'.out hcg'.out hc1 (by repeat (first | exact At.head _ | apply At.tail)) (by rw [hcl'.out, wc_size]; exact Nat.le_trans (by rw [Nat.zero_add]; exact Nat.min_le_right _ _) (Nat.le_refl 8)) hcw'.out (by first | exact Or.inl (by assumption) | (refine Or.inr ?_; simp)) ?_; clear hst; intro w hst; (try simp only [pz, pn, sz, sc])) | (refine ka 2 hst tz24 rfl rfl ?_; clear hst; intro b2 w hb2 hst) | (refine ka 3 hst tz24 rfl rfl ?_; clear hst; intro b3 w hb3 hst) | (refine kl hst ta24 rfl ?_) | (refine kt hst ta24 rfl rfl ?_; clear hst; intro w hst)); try simp only [pz, pn, sz, sc])
  refine bp_c rfl rfl (la hst ta24) ⟨?_, hst.keeps⟩
  rfl

end Go.Proofs.YtojjmcghcgidlaaDoor.Rd
