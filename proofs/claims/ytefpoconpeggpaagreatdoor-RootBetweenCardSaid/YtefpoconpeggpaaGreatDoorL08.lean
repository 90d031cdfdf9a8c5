/- What class.Of, Neg, Field, Fraction, Finite and unpack.Unpack answer. -/
import Derived.Test.YtefpoconpeggpaaGreatDoorL07
import Derived.Test.YtefpoconpeggpaaGreatDoorL03
namespace Go.Proofs.YtefpoconpeggpaaGreatDoor.Rd
open Go Go.RowKit
set_option linter.unusedVariables false
set_option linter.unusedSimpArgs false
set_option maxRecDepth 100000

theorem small_M2 (k : Nat) (h : k ≤ 500) : 2 ^ k < M := by
  have key : ∀ t, M = 2 ^ t → k < t → 2 ^ k < M := fun t e h => by rw [e]; exact Nat.pow_lt_pow_right (by omega) h
  exact key (64 * 8) (by rw [M_eq, show B = 2 ^ 64 from rfl, ← Nat.pow_mul]) (by omega)

/-- A word's class. -/
def clsN (f m : Nat) : Nat := if wField f m = 2 * fE f + 1 then (if wFrac f m = 0 then 3 else if (wFrac f m).testBit (fP f - 2) then 2 else 1) else if wField f m = 0 then (if wFrac f m = 0 then 6 else 5) else 4
theorem ptC_eq (f m : Nat) : ptC f m = (fmC f ++ #[.bool (wNeg f m), .int .i64 (wField f m : Nat)]) ++ wc 8 (wFrac f m) := by unfold ptC; rw [Array.append_assoc]
theorem ptC_at (f m : Nat) : (ptC f m)[0 + 1]? = some (.int .i64 (fP f : Nat)) ∧ (ptC f m)[0 + 2]? = some (.int .i64 (fE f : Nat)) ∧ (ptC f m)[0 + 5]? = some (.bool (wNeg f m)) ∧ (ptC f m)[0 + 6]? = some (.int .i64 (wField f m : Nat)) := by
  rw [ptC_eq]
  exact ⟨pre_get (cells_get rfl), pre_get (cells_get rfl), pre_get (cells_get rfl), pre_get (cells_get rfl)⟩
theorem ptC_frac (f m : Nat) : Part (ptC f m) (wc 8 (wFrac f m)) (ptC f m) (wc 8 (wFrac f m)) 7 := by
  rw [ptC_eq]
  exact part1 7 _ _ _ (by simp [fmC]) rfl

theorem class_Neg_1 (f m : Nat) : Gives Tryz.prog 157 #[.agg (ptC f m)] (.bool (wNeg f m)) := by
  intro w0
  have hst := St.start [] w0
  obtain ⟨_, _, g5, _⟩ := ptC_at f m
  have y1 := ptC_size f m
  have y2 := ptC_one f m
  generalize ptC f m = ps at *
  generalize wNeg f m = ng at *
  go_enter Tryz.func157, Tryz.ntmps157
  go_wp2_with ((first | (refine kb 1 hst rfl rfl ?_; clear hst; intro b1 w hb1 hst) | (refine kc hst tc4 rfl ?_)); try simp only [pz, pn, sz, sc])
  refine bp_t rfl rfl (by rfl) ⟨?_, hst.keeps⟩
  rfl

theorem class_Field_1 (f m : Nat) : Gives Tryz.prog 153 #[.agg (ptC f m)] (.int .i64 (wField f m : Nat)) := by
  intro w0
  have hst := St.start [] w0
  obtain ⟨_, _, _, g6⟩ := ptC_at f m
  have y1 := ptC_size f m
  have y2 := ptC_one f m
  generalize ptC f m = ps at *
  generalize wField f m = ng at *
  go_enter Tryz.func153, Tryz.ntmps153
  go_wp2_with ((first | (refine kb 1 hst rfl rfl ?_; clear hst; intro b1 w hb1 hst) | (refine kc hst tc3 rfl ?_)); try simp only [pz, pn, sz, sc])
  refine bp_t rfl rfl (by rfl) ⟨?_, hst.keeps⟩
  rfl

theorem class_Fraction_1 (f m : Nat) : Gives Tryz.prog 155 #[.agg (ptC f m)] (W (wFrac f m)) := by
  intro w0
  have hst := St.start [] w0
  have hp := ptC_frac f m
  have y1 := ptC_size f m
  have y2 := ptC_one f m
  generalize ptC f m = ps at *
  generalize wFrac f m = fr at *
  go_enter Tryz.func155, Tryz.ntmps155
  go_wp2_with ((first | (refine klm hst ta44 rfl ?_ (hc := hp)) | (refine kb 1 hst rfl rfl ?_; clear hst; intro b1 w hb1 hst) | (refine ka 2 hst tz44 rfl rfl ?_; clear hst; intro b2 w hb2 hst) | (refine kt hst ta44 rfl rfl ?_; clear hst; intro w hst)); try simp only [pz, pn, sz, sc])
  refine bp_c rfl rfl (la hst ta44) ⟨?_, hst.keeps⟩
  rfl

set_option maxHeartbeats 2000000 in
theorem class_kind (f m : Nat) : Gives Tryz.prog 168 #[.agg (ptC f m)] (.int .i64 (clsN f m : Nat)) := by
  intro w0
  have hst := St.start [] w0
  obtain ⟨g1, g2, _, g6⟩ := ptC_at f m
  have hp := ptC_frac f m
  have y1 := ptC_size f m
  have y2 := ptC_one f m
  have hP := fP_in f
  have hE := fE_in f
  have hfr : wFrac f m < M := Nat.lt_trans (wFrac_lt f m) (small_M2 (fP f - 1) (by omega))
  have hbit := wide_Bit (wFrac f m) (fP f - 2) hfr (by omega)
  rw [show ((fP f - 2 : Nat) : Int) = (fP f : Int) - 2 by omega] at hbit
  have hM := M_pos
  unfold clsN
  have hfld : wField f m < 65536 := Nat.lt_of_lt_of_le (Nat.mod_lt _ (Nat.pow_pos (by omega))) (Nat.le_trans (Nat.pow_le_pow_right (by omega) (fK_in f).2) (by decide))
  generalize ptC f m = ps at *
  generalize wFrac f m = fr at *
  generalize wField f m = fld at *
  generalize fP f = p at *
  generalize fE f = E at *
  by_cases hA : fld = 2 * E + 1
  · rw [if_pos hA]
    have qA : (fld : Int) = 2 * (E : Int) + 1 := by omega
    have QA : ((fld : Int) == 2 * (E : Int) + 1) = true := by simpa using qA
    clear hA
    by_cases h0 : fr = 0
    · rw [if_pos h0]
      have Q0 : decide (fr = 0) = true := by simpa using h0
      clear h0 qA
      go_enter Tryz.func168, Tryz.ntmps168
      go_wp2_with ((first | (refine klm hst ta44 rfl ?_ (hc := hp)) | (refine kb 1 hst rfl rfl ?_; clear hst; intro b1 w hb1 hst) | (refine ke tr44 tc22 rfl ?_) | (refine kc hst tc3 rfl ?_)); try simp only [pz, pn, sz, sc])
      refine bp_t rfl rfl (by rfl) ⟨?_, hst.keeps⟩
      rfl
    · rw [if_neg h0]
      have Q0 : decide (fr = 0) = false := by simpa using h0
      clear h0 qA
      cases hb : fr.testBit (p - 2)
      · rw [hb] at hbit
        clear hb
        go_enter Tryz.func168, Tryz.ntmps168
        go_wp2_with ((first | (refine klm hst ta44 rfl ?_ (hc := hp)) | (refine kf gf86 hst (hbit) rfl rfl rfl rfl ?_; clear hst; intro w hst) | (refine kb 1 hst rfl rfl ?_; clear hst; intro b1 w hb1 hst) | (refine ke tr44 tc22 rfl ?_) | (refine kc hst tc3 rfl ?_)); try simp only [pz, pn, sz, sc])
        refine bp_t rfl rfl (by rfl) ⟨?_, hst.keeps⟩
        rfl
      · rw [hb] at hbit
        clear hb
        go_enter Tryz.func168, Tryz.ntmps168
        go_wp2_with ((first | (refine klm hst ta44 rfl ?_ (hc := hp)) | (refine kf gf86 hst (hbit) rfl rfl rfl rfl ?_; clear hst; intro w hst) | (refine kb 1 hst rfl rfl ?_; clear hst; intro b1 w hb1 hst) | (refine ke tr44 tc22 rfl ?_) | (refine kc hst tc3 rfl ?_)); try simp only [pz, pn, sz, sc])
        refine bp_t rfl rfl (by rfl) ⟨?_, hst.keeps⟩
        rfl
  · rw [if_neg hA]
    have QA : ((fld : Int) == 2 * (E : Int) + 1) = false := by simp; omega
    clear hA
    by_cases hB : fld = 0
    · rw [if_pos hB]
      have QB : ((fld : Int) == 0) = true := by simp; omega
      clear hB
      by_cases h0 : fr = 0
      · rw [if_pos h0]
        have Q0 : decide (fr = 0) = true := by simpa using h0
        clear h0
        go_enter Tryz.func168, Tryz.ntmps168
        go_wp2_with ((first | (refine klm hst ta44 rfl ?_ (hc := hp)) | (refine kb 1 hst rfl rfl ?_; clear hst; intro b1 w hb1 hst) | (refine ke tr44 tc22 rfl ?_) | (refine kc hst tc3 rfl ?_)); try simp only [pz, pn, sz, sc])
        refine bp_t rfl rfl (by rfl) ⟨?_, hst.keeps⟩
        rfl
      · rw [if_neg h0]
        have Q0 : decide (fr = 0) = false := by simpa using h0
        clear h0
        go_enter Tryz.func168, Tryz.ntmps168
        go_wp2_with ((first | (refine klm hst ta44 rfl ?_ (hc := hp)) | (refine kb 1 hst rfl rfl ?_; clear hst; intro b1 w hb1 hst) | (refine ke tr44 tc22 rfl ?_) | (refine kc hst tc3 rfl ?_)); try simp only [pz, pn, sz, sc])
        refine bp_t rfl rfl (by rfl) ⟨?_, hst.keeps⟩
        rfl
    · rw [if_neg hB]
      have QB : ((fld : Int) == 0) = false := by simp; omega
      clear hB
      go_enter Tryz.func168, Tryz.ntmps168
      go_wp2_with ((first | (refine klm hst ta44 rfl ?_ (hc := hp)) | (refine kb 1 hst rfl rfl ?_; clear hst; intro b1 w hb1 hst) | (refine ke tr44 tc22 rfl ?_) | (refine kc hst tc3 rfl ?_)); try simp only [pz, pn, sz, sc])
      refine bp_t rfl rfl (by rfl) ⟨?_, hst.keeps⟩
      rfl

end Go.Proofs.YtefpoconpeggpaaGreatDoor.Rd

namespace Go.Proofs.YtefpoconpeggpaaGreatDoor.Rd
open Go Go.RowKit
set_option linter.unusedVariables false
set_option linter.unusedSimpArgs false
set_option maxRecDepth 100000

/-- A number with another limb at a place. -/
def setL (m j d : Nat) : Nat := m % B ^ j + d * B ^ j + m / B ^ (j + 1) * B ^ (j + 1)

theorem setL_eq (m j d : Nat) : setL m j d + lb m j * B ^ j = m + d * B ^ j := by
  have h1 := Nat.div_add_mod m (B ^ (j + 1))
  have h2 := lb_split m j
  unfold setL
  rw [Nat.mul_comm] at h1
  omega

theorem lb_setL (m j d i : Nat) (hd : d < B) : lb (setL m j d) i = if i = j then d else lb m i := by
  have hlo : m % B ^ j < B ^ j := Nat.mod_lt _ (Bp_pos j)
  have hlow : m % B ^ j + d * B ^ j < B ^ (j + 1) := by
    rw [Nat.pow_succ, Nat.mul_comm (B ^ j)]
    have : (d + 1) * B ^ j ≤ B * B ^ j := Nat.mul_le_mul_right _ hd
    rw [Nat.add_mul, Nat.one_mul] at this
    omega
  unfold setL
  rcases Nat.lt_or_ge j i with h | h
  · rw [if_neg (by omega)]
    unfold lb
    have e : B ^ i = B ^ (j + 1) * B ^ (i - (j + 1)) := by rw [← Nat.pow_add]; congr 1; omega
    rw [e, ← Nat.div_div_eq_div_mul, ← Nat.div_div_eq_div_mul, Nat.add_mul_div_right _ _ (Bp_pos (j + 1)), Nat.div_eq_of_lt hlow, Nat.zero_add]
  · have e : m / B ^ (j + 1) * B ^ (j + 1) = B ^ i * (B * (m / B ^ (j + 1) * B ^ (j - i))) := by
      have : B ^ (j + 1) = B ^ i * (B * B ^ (j - i)) := by rw [← Nat.pow_succ', ← Nat.pow_add]; congr 1; omega
      rw [Nat.mul_comm (m / B ^ (j + 1)) (B ^ (j - i)), ← Nat.mul_assoc B, ← Nat.mul_assoc (B ^ i), ← this, Nat.mul_comm]
    have h2 : lb (m % B ^ j + d * B ^ j + m / B ^ (j + 1) * B ^ (j + 1)) i = lb (m % B ^ j + d * B ^ j) i := by
      unfold lb
      rw [e, Nat.add_mul_div_left _ _ (Bp_pos i), Nat.add_mul_mod_self_left]
    rw [h2, lb_add_at _ _ _ _ hlo hd]
    by_cases hij : i = j
    · rw [if_pos hij, if_pos hij]
    · rw [if_neg hij, if_neg hij]
      have := lb_part m 0 j i (by omega)
      simpa using this

theorem wc_setL (k m j d : Nat) (hd : d < B) : (wc k m).setIfInBounds j (.int .u64 (d : Nat)) = wc k (setL m j d) := by
  apply Array.ext_getElem?
  intro i
  rw [Array.getElem?_setIfInBounds]
  by_cases hk : i < k
  · rw [wc_get k _ i hk, wc_get k _ i hk, lb_setL m j d i hd, wc_size]
    by_cases h : j = i
    · subst h; simp [hk]
    · rw [if_neg h, if_neg (by omega)]
  · have e1 : (wc k m)[i]? = none := Array.getElem?_eq_none (by simp; omega)
    have e2 : (wc k (setL m j d))[i]? = none := Array.getElem?_eq_none (by simp; omega)
    rw [e1, e2, wc_size]
    split
    · rename_i h; subst h; rw [if_neg hk]
    · rfl

theorem setL_lt (m j d k : Nat) (hm : m < B ^ k) (hd : d < B) (hj : j < k) : setL m j d < B ^ k := by
  have h : setL m j d % B ^ k = setL m j d := by
    have : setL m j d / B ^ k = 0 := by
      have e : B ^ k = B ^ (j + 1) * B ^ (k - (j + 1)) := by rw [← Nat.pow_add]; congr 1; omega
      have hlow : m % B ^ j + d * B ^ j < B ^ (j + 1) := by
        have hlo : m % B ^ j < B ^ j := Nat.mod_lt _ (Bp_pos j)
        rw [Nat.pow_succ, Nat.mul_comm (B ^ j)]
        have : (d + 1) * B ^ j ≤ B * B ^ j := Nat.mul_le_mul_right _ hd
        rw [Nat.add_mul, Nat.one_mul] at this
        omega
      unfold setL
      rw [e, ← Nat.div_div_eq_div_mul, Nat.add_mul_div_right _ _ (Bp_pos (j + 1)), Nat.div_eq_of_lt hlow, Nat.zero_add, Nat.div_div_eq_div_mul, ← e]
      exact Nat.div_eq_of_lt hm
    rw [Nat.mod_eq_of_lt]
    exact (Nat.div_eq_zero_iff_lt (Bp_pos k)).1 this
  rw [← h]
  exact Nat.mod_lt _ (Bp_pos k)

/-- A step of a carry. -/
theorem carry_step (m j x c : Nat) : setL m j ((lb m j + x + c) % B) + (lb m j + x + c) / B * B ^ (j + 1) = m + (x + c) * B ^ j := by
  have h := setL_eq m j ((lb m j + x + c) % B)
  have e := Nat.div_add_mod (lb m j + x + c) B
  generalize (lb m j + x + c) / B = q at *
  generalize (lb m j + x + c) % B = r at *
  have e2 : (B * q + r) * B ^ j = (lb m j + x + c) * B ^ j := by rw [e]
  rw [Nat.add_mul, Nat.add_mul, Nat.add_mul, Nat.mul_assoc] at e2
  rw [Nat.add_mul, Nat.pow_succ', ← Nat.mul_assoc, Nat.mul_comm q B, Nat.mul_assoc]
  omega

set_option maxHeartbeats 4000000 in
theorem prod_put (b n i x : Nat) (E : TypeId) (hn : n < B ^ 17) (hx : x < B) (hi : i ≤ 16) (w0 : World) (hb : w0.heap[b]? = some (.cells (wc 17 n) E (0, 0))) :
    Calls Tryz.prog 159 #[.pointer (some ⟨b, 0, none⟩), .int .i64 i, .int .u64 x] w0 fun e w' => e = .returned (.tuple #[]) ∧ Keeps [b] w0 w' ∧ w'.heap[b]? = some (.cells (wc 17 ((n + x * B ^ i) % B ^ 17)) E (0, 0)) := by
  have hst := (St.start [b] w0).add hb (by simp)
  clear hb
  have hadd := limb_Add (lb n i) x 0 (lb_lt _ _) hx (by omega)
  have hi0 : (0 : Int) ≤ (i : Int) := by omega
  have hi17 : (i : Int) < 17 := by omega
  have hcs := carry_step n i x 0
  have hc1 := (add_lt (lb n i) x 0 (lb_lt _ _) hx (by omega)).2
  have hs1 := (add_lt (lb n i) x 0 (lb_lt _ _) hx (by omega)).1
  have hlt1 := setL_lt n i _ 17 hn hs1 (by omega)
  have hset := wc_setL 17 n i _ hs1
  generalize hq : (lb n i + x + 0) / B = q at *
  generalize hr : (lb n i + x + 0) % B = r at *
  clear hq hr
  have hset' := Lib.hid hset
  clear hset
  go_enter Tryz.func159, Tryz.ntmps159
  go_wp2_with fail
  refine wp_region_T 14  hst (by kernel_rfl) ?_; clear hst; intro w hst; (try simp only [List.length_cons, List.length_nil, Nat.reduceAdd, Array.replicate_succ, Array.replicate_zero, List.push_toArray, List.nil_append, List.cons_append])
  refine r0 0 ?_; simp only [pz, pn, sz, sc]
  refine r0 1 ?_; simp only [pz, pn, sz, sc]
  refine r0 2 ?_; simp only [pz, pn, sz, sc]
  refine r0 3 ?_; simp only [pz, pn, sz, sc]
  refine r0 4 ?_; simp only [pz, pn, sz, sc]
  refine r0 5 ?_; simp only [pz, pn, sz, sc]
  refine r0 7 ?_; simp only [pz, pn, sz, sc]
  refine r0 12 ?_; simp only [pz, pn, sz, sc]
  refine rl 6 rfl ?_ (ylC tc22); simp only [pz, pn, sz, sc]
  refine r1 8 ?_; (refine kf gf133 hst (hadd) rfl rfl rfl rfl ?_; clear hst; intro w hst); (try simp only [pz, pn, sz, sc]); refine re ?_
  refine r0 9 ?_; simp only [pz, pn, sz, sc]
  refine r0 10 ?_; simp only [pz, pn, sz, sc]
  refine r0 11 ?_; simp only [pz, pn, sz, sc]
  refine r0 13 ?_; simp only [pz, pn, sz, sc]
  refine r1 14 ?_; (refine ks hst tc22 rfl rfl ?_; clear hst; intro w hst; (try rw [hset'.out] at hst)); (try simp only [pz, pn, sz, sc]); refine re ?_
  refine r0 15 ?_; simp only [pz, pn, sz, sc]
  refine rd_ ?_
  go_wp2_with fail
  go_loopw [1, 6] (fun j c wr => ∃ (k m u : Nat), k ≤ 17 ∧ u ≤ 1 ∧ m < B ^ 17 ∧ m + u * B ^ k = n + x * B ^ i ∧ j = .int .i64 k ∧ c = .int .u64 u ∧ St w0 [b] [(b, .cells (wc 17 m) E (0, 0))] wr) (fun j _ _ => 17 - (intOf j).toNat)
  case atStart => exact ⟨i + 1, _, q, by omega, hc1, hlt1, by rw [hcs, Nat.add_zero], by go_num, rfl, hst⟩
  case round =>
    clear hst hset' hadd hcs hc1 hs1 hlt1 hi0 hi17
    obtain ⟨k, m, u, hk, hu, hm, he, rfl, rfl, hst⟩ := hrel
    by_cases h0 : u = 0
    · subst h0
      have hm2 : m = (n + x * B ^ i) % B ^ 17 := by
        rw [Nat.zero_mul, Nat.add_zero] at he
        rw [← he, Nat.mod_eq_of_lt hm]
      subst hm2
      go_wp2_with fail
      exact bp_0 rfl rfl ⟨rfl, hst.keeps, hst.own _ _ (by simp)⟩
    · have hu1 : u = 1 := by omega
      subst hu1
      by_cases h1 : k ≤ 16
      · have hk0 : (0 : Int) ≤ (k : Int) := by omega
        have hk17 : (k : Int) < 17 := by omega
        have hadd := limb_Add (lb m k) 0 1 (lb_lt _ _) B_pos (by omega)
        have hcs := carry_step m k 0 1
        have hc1 := (add_lt (lb m k) 0 1 (lb_lt _ _) B_pos (by omega)).2
        have hs1 := (add_lt (lb m k) 0 1 (lb_lt _ _) B_pos (by omega)).1
        have hlt1 := setL_lt m k _ 17 hm hs1 (by omega)
        have hset := wc_setL 17 m k _ hs1
        generalize hq : (lb m k + 0 + 1) / B = q at *
        generalize hr : (lb m k + 0 + 1) % B = r at *
        clear hq hr
        have hset' := Lib.hid hset
        have he' := Lib.hid he
        have hcs' := Lib.hid hcs
        clear hset he hcs
        go_wp2_with fail
        refine wp_region_T 14  hst (by kernel_rfl) ?_; clear hst; intro w hst; (try simp only [List.length_cons, List.length_nil, Nat.reduceAdd, Array.replicate_succ, Array.replicate_zero, List.push_toArray, List.nil_append, List.cons_append])
        refine r0 0 ?_; simp only [pz, pn, sz, sc]
        refine r0 1 ?_; simp only [pz, pn, sz, sc]
        refine r0 2 ?_; simp only [pz, pn, sz, sc]
        refine r0 3 ?_; simp only [pz, pn, sz, sc]
        refine r0 4 ?_; simp only [pz, pn, sz, sc]
        refine r0 5 ?_; simp only [pz, pn, sz, sc]
        refine r0 7 ?_; simp only [pz, pn, sz, sc]
        refine r0 12 ?_; simp only [pz, pn, sz, sc]
        refine rl 6 rfl ?_ (ylC tc22); simp only [pz, pn, sz, sc]
        refine r1 8 ?_; (refine kf gf133 hst (hadd) rfl rfl rfl rfl ?_; clear hst; intro w hst); (try simp only [pz, pn, sz, sc]); refine re ?_
        refine r0 9 ?_; simp only [pz, pn, sz, sc]
        refine r0 10 ?_; simp only [pz, pn, sz, sc]
        refine r0 11 ?_; simp only [pz, pn, sz, sc]
        refine r0 13 ?_; simp only [pz, pn, sz, sc]
        refine r1 14 ?_; (refine ks hst tc22 rfl rfl ?_; clear hst; intro w hst; (try rw [hset'.out] at hst)); (try simp only [pz, pn, sz, sc]); refine re ?_
        refine r0 15 ?_; simp only [pz, pn, sz, sc]
        refine rd_ ?_
        go_wp2_with fail
        go_roundw
        case rel => exact ⟨k + 1, _, q, by omega, hc1, hlt1, by rw [hcs'.out, ← he'.out], by go_num, rfl, hst⟩
        case measure => simp [intOf]; omega
      · have h17 : k = 17 := by omega
        subst h17
        have hm2 : m = (n + x * B ^ i) % B ^ 17 := by
          rw [← he, Nat.one_mul, Nat.add_mod_right, Nat.mod_eq_of_lt hm]
        subst hm2
        clear he
        go_wp2_with fail
        exact bp_0 rfl rfl ⟨rfl, hst.keeps, hst.own _ _ (by simp)⟩

end Go.Proofs.YtefpoconpeggpaaGreatDoor.Rd

namespace Go.Proofs.YtefpoconpeggpaaGreatDoor.Rd
open Go Go.RowKit
set_option linter.unusedVariables false
set_option linter.unusedSimpArgs false
set_option maxRecDepth 100000

theorem low_step (m i : Nat) : m % 2 ^ (i + 1) = m % 2 ^ i + (if m.testBit i then 2 ^ i else 0) := by
  have h := Nat.mod_mul (a := 2 ^ i) (b := 2) (x := m)
  rw [← Nat.pow_succ] at h
  rw [h, Nat.testBit_eq_decide_div_mod_eq]
  by_cases h' : m / 2 ^ i % 2 = 1
  · simp [h']
  · have : m / 2 ^ i % 2 = 0 := by omega
    simp [this]
theorem set_bit (n i : Nat) (hn : n < 2 ^ i) (hi : i < 512) : (wc 8 n).setIfInBounds (i / 64) (.int .u64 ((lb n (i / 64) : Int) + (2 ^ (i % 64) : Nat))) = wc 8 (n + 2 ^ i) ∧ lb n (i / 64) + 2 ^ (i % 64) < B := by
  have hlb : lb n (i / 64) < 2 ^ (i % 64) := by
    unfold lb
    refine Nat.lt_of_le_of_lt (Nat.mod_le _ _) ?_
    rw [Nat.div_lt_iff_lt_mul (Bp_pos _), show B = 2 ^ 64 from rfl, ← Nat.pow_mul, ← Nat.pow_add, show i % 64 + 64 * (i / 64) = i by omega]
    exact hn
  have h2 : 2 ^ (i % 64) ≤ 2 ^ 63 := Nat.pow_le_pow_right (by omega) (by omega)
  have hB : lb n (i / 64) + 2 ^ (i % 64) < B := by rw [B_val]; omega
  refine ⟨?_, hB⟩
  rw [← Int.natCast_add, wc_setL 8 n (i / 64) _ hB]
  congr 1
  have h := setL_eq n (i / 64) (lb n (i / 64) + 2 ^ (i % 64))
  rw [Nat.add_mul] at h
  have e : 2 ^ (i % 64) * B ^ (i / 64) = 2 ^ i := by rw [show B = 2 ^ 64 from rfl, ← Nat.pow_mul, ← Nat.pow_add, show i % 64 + 64 * (i / 64) = i by omega]
  rw [e] at h
  omega

set_option maxHeartbeats 4000000 in
theorem ref06_Fraction (f : Nat) (h1 : 1 ≤ f) (h4 : f ≤ 4) (m : Nat) (hm : m < M2) : Gives Tryz.prog 36 #[.int .i64 f, Wd m] (W (wFrac f m)) := by
  intro w0
  have hst := St.start [] w0
  have hp := ref05_Prec f h1 h4
  have hbit := Lib.hid (fun i (hi : i < 128) => ref05_Bit m i hm hi)
  have hP := fP_in f
  have hstep := Lib.hid (low_step m)
  obtain ⟨res, hres⟩ : ∃ res, res = wFrac f m := ⟨_, rfl⟩
  rw [← hres]
  have hres' := Lib.hid (show res = m % 2 ^ (fP f - 1) from hres)
  clear hres hm h1 h4
  generalize fP f = p at *
  go_enter Tryz.func36, Tryz.ntmps36
  go_wp2_with ((first | (refine kb 3 hst rfl rfl ?_; clear hst; intro b3 w hb3 hst) | (refine ka 4 hst tz44 rfl rfl ?_; clear hst; intro b4 w hb4 hst) | (refine ka 5 hst tz44 rfl rfl ?_; clear hst; intro b5 w hb5 hst)); try simp only [pz, pn, sz, sc])
  go_loopw [6] (fun vi wr => ∃ i : Nat, i + 1 ≤ p ∧ vi = .int .i64 i ∧ St w0 [] [(b5, .cells (wc 8 (m % 2 ^ i)) 44), (b4, .cells (wc 8 0) 44), (b3, .cells (wdc m) 24)] wr) (fun vi _ => p - (intOf vi).toNat)
  case atStart => exact ⟨0, by omega, rfl, by rw [Nat.pow_zero, Nat.mod_one]; exact hst⟩
  case round =>
    clear hst
    obtain ⟨i, hi, rfl, hst⟩ := hrel
    have hlow : m % 2 ^ i < 2 ^ i := Nat.mod_lt _ (Nat.pow_pos (by omega))
    obtain ⟨n, hn⟩ : ∃ n, n = m % 2 ^ i := ⟨_, rfl⟩
    rw [← hn] at hlow hst
    have hn' := Lib.hid hn
    by_cases hlt : i + 1 < p
    · have i1 : (i : Int) < (p : Int) - 1 := by omega
      have hbn := hbit.out i (by omega)
      have hs := hstep.out i
      rw [← hn'.out] at hs
      have hs' := Lib.hid hs
      obtain ⟨sb1, sb2⟩ := set_bit n i hlow (by omega)
      obtain ⟨q, hq⟩ : ∃ q, q = i / 64 := ⟨_, rfl⟩
      obtain ⟨r, hr⟩ : ∃ r, r = i % 64 := ⟨_, rfl⟩
      rw [← hq, ← hr] at sb1 sb2
      have Q1 : (i : Int) / 64 = (q : Int) := by omega
      have Q2 : (i : Int) % 64 = (r : Int) := by omega
      have Q5 : (i : Int).tdiv 64 = (q : Int) := by rw [Int.tdiv_eq_ediv_of_nonneg (by omega)]; exact Q1
      have Q6 : (i : Int).tmod 64 = (r : Int) := by rw [Int.tmod_eq_emod_of_nonneg (by omega)]; exact Q2
      have q0 : (0 : Int) ≤ (q : Int) := by omega
      have q8 : (q : Int) < 8 := by omega
      have q8' : q < 8 := by omega
      have rr0 : (0 : Int) ≤ (r : Int) := by omega
      have rr6 : (r : Int) < 64 := by omega
      have hil : (i : Int) < 128 := by omega
      have P1 : IntKind.u64.wrap ((2 : Int) ^ r) = ((2 ^ r : Nat) : Int) := by
        have a : 2 ^ r ≤ 2 ^ 63 := Nat.pow_le_pow_right (by omega) (by omega)
        rw [show (2 : Int) ^ r = ((2 ^ r : Nat) : Int) by simp, u64_wrap, Nat.mod_eq_of_lt (by rw [B_val]; omega)]
      have P2 : IntKind.u64.wrap ((lb n q : Int) + ((2 ^ r : Nat) : Int)) = (lb n q : Int) + ((2 ^ r : Nat) : Int) := by rw [← Int.natCast_add, u64_wrap, Nat.mod_eq_of_lt sb2]
      have P3 : IntKind.i64.wrap (q : Int) = (q : Int) := by rw [IntKind.wrap_i64]; omega
      have P4 : IntKind.i64.wrap (r : Int) = (r : Int) := by rw [IntKind.wrap_i64]; omega
      have hP5 := Lib.hid (show IntKind.u64.wrap ((lb n q : Int) + (2 : Int) ^ r) = (lb n q : Int) + ((2 ^ r : Nat) : Int) by rw [show (2 : Int) ^ r = ((2 ^ r : Nat) : Int) by simp]; exact P2)
      have hset := Lib.hid sb1
      clear hn hs hq hr sb1 sb2 hlow
      cases ht : m.testBit i
      · rw [ht] at hbn
        have ht' := Lib.hid ht
        clear ht
        go_wp2_with ((first | (refine kf gf25 hst (hp) rfl rfl rfl rfl ?_; clear hst; intro w hst) | (refine kf gf67 hst (hbn) rfl rfl rfl rfl ?_; clear hst; intro w hst) | (refine kl hst ta24 rfl ?_)); try simp only [pz, pn, sz, sc])
        refine ⟨⟨i + 1, by omega, by go_num, by rw [hs'.out, ht'.out, if_neg (by simp), Nat.add_zero]; exact hst⟩, ?_⟩
        (simp [intOf]; try omega)
      · rw [ht] at hbn
        have ht' := Lib.hid ht
        clear ht
        have hfin := Lib.hid (show m % 2 ^ (i + 1) = n + 2 ^ i by rw [hs'.out, ht'.out, if_pos rfl])
        generalize 2 ^ i = pw at *
        go_wp2_with ((first | (refine kf gf25 hst (hp) rfl rfl rfl rfl ?_; clear hst; intro w hst) | (refine kf gf67 hst (hbn) rfl rfl rfl rfl ?_; clear hst; intro w hst) | (refine kl hst ta24 rfl ?_)); try simp only [pz, pn, sz, sc])
        refine wp_region_T 11  hst (by kernel_rfl) ?_; clear hst; intro w hst; (try simp only [List.length_cons, List.length_nil, Nat.reduceAdd, Array.replicate_succ, Array.replicate_zero, List.push_toArray, List.nil_append, List.cons_append])
        refine r0 0 ?_; simp only [pz, pn, sz, sc, Q1, Q2, Q5, Q6, P1, P2, P3, P4]
        refine r0 1 ?_; simp only [pz, pn, sz, sc, Q1, Q2, Q5, Q6, P1, P2, P3, P4]
        refine r0 2 ?_; simp only [pz, pn, sz, sc, Q1, Q2, Q5, Q6, P1, P2, P3, P4]
        refine r0 3 ?_; simp only [pz, pn, sz, sc, Q1, Q2, Q5, Q6, P1, P2, P3, P4]
        refine r0 4 ?_; simp only [pz, pn, sz, sc, Q1, Q2, Q5, Q6, P1, P2, P3, P4]
        refine r0 6 ?_; simp only [pz, pn, sz, sc, Q1, Q2, Q5, Q6, P1, P2, P3, P4]
        refine r0 7 ?_; simp only [pz, pn, sz, sc, Q1, Q2, Q5, Q6, P1, P2, P3, P4]
        refine r0 8 ?_; simp only [pz, pn, sz, sc, Q1, Q2, Q5, Q6, P1, P2, P3, P4]
        refine rl 5 rfl ?_ (ylC tc22); simp only [pz, pn, sz, sc, Q1, Q2, Q5, Q6, P1, P2, P3, P4]
        refine r0 9 ?_; simp only [pz, pn, sz, sc, Q1, Q2, Q5, Q6, P1, P2, P3, P4]
        refine r0 10 ?_; simp only [pz, pn, sz, sc, Q1, Q2, Q5, Q6, P1, P2, P3, P4]
        refine r1 11 ?_; (refine ks hst tc22 rfl rfl ?_; clear hst; intro w hst; (try rw [hP5.out, hset.out] at hst)); (try simp only [pz, pn, sz, sc, Q1, Q2, Q5, Q6, P1, P2, P3, P4]); refine re ?_
        refine rd_ ?_
        all_goals
          go_wp2_with fail
          refine ⟨⟨i + 1, by omega, by go_num, by rw [hfin.out]; exact hst⟩, ?_⟩
          (simp [intOf]; try omega)
    · obtain rfl : i = p - 1 := by omega
      have i1 : ¬ ((p - 1 : Nat) : Int) < (p : Int) - 1 := by omega
      have e : n = res := by rw [hn'.out, hres'.out]
      subst e
      clear hn hlow
      go_wp2_with ((first | (refine kf gf25 hst (hp) rfl rfl rfl rfl ?_; clear hst; intro w hst) | (refine kl hst ta44 rfl ?_) | (refine kt hst ta44 rfl rfl ?_; clear hst; intro w hst)); try simp only [pz, pn, sz, sc])
      refine bp_c rfl rfl (la hst ta44) ⟨?_, hst.keeps⟩
      rfl

set_option maxHeartbeats 1000000 in
theorem ref06_Neg (f : Nat) (h1 : 1 ≤ f) (h4 : f ≤ 4) (m : Nat) (hm : m < M2) (hf : m < 2 ^ fB f) : Gives Tryz.prog 35 #[.int .i64 f, Wd m] (.bool (wNeg f m)) := by
  intro w0
  have hst := St.start [] w0
  have hfit := ref05_Fits f h1 h4 m hm
  rw [decide_eq_true hf] at hfit
  have hb := ref05_Bits f h1 h4
  have hB := fB_in f
  have hbit := ref05_Bit m (fB f - 1) hm (by omega)
  rw [wNeg_bit f m hf, show ((fB f - 1 : Nat) : Int) = (fB f : Int) - 1 by omega] at hbit
  have hW1 : IntKind.i64.wrap ((fB f : Int) - 1) = (fB f : Int) - 1 := by rw [IntKind.wrap_i64]; omega
  clear hf hm h1 h4
  generalize wNeg f m = ng at *
  generalize fB f = bb at *
  go_enter Tryz.func35, Tryz.ntmps35
  go_wp2_with ((first | (refine kb 3 hst rfl rfl ?_; clear hst; intro b3 w hb3 hst)); try simp only [pz, pn, sz, sc])
  refine wp_region_T 11  hst (by kernel_rfl) ?_; clear hst; intro w hst; (try simp only [List.length_cons, List.length_nil, Nat.reduceAdd, Array.replicate_succ, Array.replicate_zero, List.push_toArray, List.nil_append, List.cons_append])
  refine r0 0 ?_; simp only [pz, pn, sz, sc, hW1]
  refine rl 1 rfl ?_ (by first | exact ylA ta24 | exact ylM ta24); simp only [pz, pn, sz, sc, hW1]
  refine r1 2 ?_; (refine kf gf68 hst (hfit) rfl rfl rfl rfl ?_; clear hst; intro w hst); (try simp only [pz, pn, sz, sc, hW1]); refine re ?_
  refine r0 3 ?_; simp only [pz, pn, sz, sc, hW1]
  refine r0 5 ?_; simp only [pz, pn, sz, sc, hW1]
  refine rl 4 rfl ?_ (by first | exact ylA ta24 | exact ylM ta24); simp only [pz, pn, sz, sc, hW1]
  refine r1 6 ?_; (try refine wl_guard (by rfl) ?_); (refine kf gf66 hst (hb) rfl rfl rfl rfl ?_; clear hst; intro w hst); (try simp only [pz, pn, sz, sc, hW1]); refine re ?_
  refine r0 7 ?_; simp only [pz, pn, sz, sc, hW1]
  refine r1 8 ?_; (try refine wl_guard (by rfl) ?_); (refine kf gf67 hst (hbit) rfl rfl rfl rfl ?_; clear hst; intro w hst); (try simp only [pz, pn, sz, sc, hW1]); refine re ?_
  refine r0 9 ?_; simp only [pz, pn, sz, sc, hW1]
  refine r0 10 ?_; simp only [pz, pn, sz, sc, hW1]
  refine rd_ ?_
  all_goals
    go_wp2_with fail
    refine bp_t rfl rfl (by rfl) ⟨?_, hst.keeps⟩
    rfl

end Go.Proofs.YtefpoconpeggpaaGreatDoor.Rd

namespace Go.Proofs.YtefpoconpeggpaaGreatDoor.Rd
open Go Go.RowKit
set_option linter.unusedVariables false
set_option linter.unusedSimpArgs false
set_option maxRecDepth 100000

theorem two_pow_limb (n : Nat) : 2 ^ n = 2 ^ (n % 64) * B ^ (n / 64) := by
  have : B ^ (n / 64) = 2 ^ (64 * (n / 64)) := by unfold B; rw [← Nat.pow_mul]
  rw [this, ← Nat.pow_add]
  congr 1
  omega

/-- What wide.Power answers. -/
def pow2 (n : Int) : Nat := if 0 ≤ n ∧ n < 512 then 2 ^ n.toNat else 0

set_option maxHeartbeats 1000000 in
theorem wide_Power (n : Int) : Gives Tryz.prog 127 #[.int .i64 n] (W (pow2 n)) := by
  intro w0
  have hst := St.start [] w0
  by_cases h0 : 0 ≤ n
  · by_cases h1 : n < 512
    · have hq : 0 ≤ n / 64 ∧ n / 64 < 8 := by omega
      have hr : 0 ≤ n % 64 ∧ n % 64 < 64 := by omega
      obtain ⟨hq1, hq2⟩ := hq
      obtain ⟨hr1, hr2⟩ := hr
      have hset : (wc 8 0).setIfInBounds (n / 64).toNat (.int .u64 (IntKind.u64.wrap (2 ^ (n % 64).toNat))) = wc 8 (pow2 n) := by
        obtain ⟨m, rfl⟩ := Int.eq_ofNat_of_zero_le h0
        have e1 : ((m : Int) / 64).toNat = m / 64 := by omega
        have e2 : ((m : Int) % 64).toNat = m % 64 := by omega
        have e3 : 2 ^ (m % 64) < B := Nat.pow_lt_pow_right (by omega) (by omega)
        have e4 : IntKind.u64.wrap (2 ^ (m % 64)) = ((2 ^ (m % 64) : Nat) : Int) := by
          rw [cast_pow2, u64_wrap, Nat.mod_eq_of_lt e3]
        rw [e1, e2, e4, wc_set 8 0 _ _ (Bp_pos _) e3, Nat.zero_add, ← two_pow_limb]
        have : pow2 (m : Int) = 2 ^ m := by simp [pow2]; omega
        rw [this]
      have hset' := Lib.hid hset
      clear hset
      go_enter Tryz.func127, Tryz.ntmps127
      go_wp2_with ((first | (refine ka 2 hst tz44 rfl rfl ?_; clear hst; intro b2 w hb2 hst) | (refine ka 3 hst tz44 rfl rfl ?_; clear hst; intro b3 w hb3 hst) | (refine ks hst tc22 rfl rfl ?_; clear hst; intro w hst; (try rw [hset'.out] at hst)) | (refine kl hst ta44 rfl ?_) | (refine kt hst ta44 rfl rfl ?_; clear hst; intro w hst; (try rw [hset'.out] at hst))); try simp only [pz, pn, sz, sc])
      refine bp_c rfl rfl (la hst ta44) ⟨?_, hst.keeps⟩
      rfl
    · go_enter Tryz.func127, Tryz.ntmps127
      go_wp2_with ((first | (refine ka 2 hst tz44 rfl rfl ?_; clear hst; intro b2 w hb2 hst) | (refine ka 3 hst tz44 rfl rfl ?_; clear hst; intro b3 w hb3 hst) | (refine kl hst ta44 rfl ?_) | (refine kt hst ta44 rfl rfl ?_; clear hst; intro w hst)); try simp only [pz, pn, sz, sc])
      refine bp_c rfl rfl (la hst ta44) ⟨?_, hst.keeps⟩
      have e : pow2 n = 0 := by unfold pow2; rw [if_neg (by omega)]
      rw [e]; rfl
  · go_enter Tryz.func127, Tryz.ntmps127
    go_wp2_with ((first | (refine ka 2 hst tz44 rfl rfl ?_; clear hst; intro b2 w hb2 hst) | (refine ka 3 hst tz44 rfl rfl ?_; clear hst; intro b3 w hb3 hst) | (refine kl hst ta44 rfl ?_) | (refine kt hst ta44 rfl rfl ?_; clear hst; intro w hst)); try simp only [pz, pn, sz, sc])
    refine bp_c rfl rfl (la hst ta44) ⟨?_, hst.keeps⟩
    have e : pow2 n = 0 := by unfold pow2; rw [if_neg (by omega)]
    rw [e]; rfl

end Go.Proofs.YtefpoconpeggpaaGreatDoor.Rd

namespace Go.Proofs.YtefpoconpeggpaaGreatDoor.Rd
open Go Go.RowKit
set_option linter.unusedVariables false
set_option linter.unusedSimpArgs false
set_option maxRecDepth 100000

theorem class_Of (f : Nat) (h1 : 1 ≤ f) (h4 : f ≤ 4) (m : Nat) (hm : m < 2 ^ fB f) (w0 : World) (hF : FmtIn w0) : GivesAt Tryz.prog 151 #[.int .i64 f, Wd m] (.int .i64 (clsN f m : Nat)) w0 := by
  have hst := St.start [] w0
  have hk := Lib.hid (fun w (k : Keeps [] w0 w) => hF.keep k (by simp))
  have ha := fun w h => ask_int f h1 h4 m hm 168 gf168 _ w h (fun w' _ => (class_kind f m).at w')
  clear hF hm
  generalize clsN f m = x at *
  go_enter Tryz.func151, Tryz.ntmps151
  go_wp2_with ((first | (refine kg gf152 hst (fun w hst => ha w (hk.out w hst.keeps)) rfl rfl rfl rfl ?_; clear hst; intro w hst) | (refine kb 3 hst rfl rfl ?_; clear hst; intro b3 w hb3 hst) | (refine kl hst ta24 rfl ?_)); try simp only [pz, pn, sz, sc])
  refine bp_t rfl rfl (by rfl) ⟨?_, hst.keeps⟩
  rfl

theorem class_Of_no (f : Nat) (h1 : 1 ≤ f) (h4 : f ≤ 4) (m : Nat) (hm2 : m < M2) (hm : ¬ m < 2 ^ fB f) (w0 : World) (hF : FmtIn w0) : GivesAt Tryz.prog 151 #[.int .i64 f, Wd m] (.int .i64 0) w0 := by
  have hst := St.start [] w0
  have hk := Lib.hid (fun w (k : Keeps [] w0 w) => hF.keep k (by simp))
  have ha := fun g w h => ask_int_no f h1 h4 m hm2 hm g w h
  clear hF hm
  go_enter Tryz.func151, Tryz.ntmps151
  go_wp2_with ((first | (refine kg gf152 hst (fun w hst => ha _ w (hk.out w hst.keeps)) rfl rfl rfl rfl ?_; clear hst; intro w hst) | (refine kb 3 hst rfl rfl ?_; clear hst; intro b3 w hb3 hst) | (refine kl hst ta24 rfl ?_)); try simp only [pz, pn, sz, sc])
  refine bp_t rfl rfl (by rfl) ⟨?_, hst.keeps⟩
  rfl

theorem class_Neg (f : Nat) (h1 : 1 ≤ f) (h4 : f ≤ 4) (m : Nat) (hm : m < 2 ^ fB f) (w0 : World) (hF : FmtIn w0) : GivesAt Tryz.prog 128 #[.int .i64 f, Wd m] (.bool (wNeg f m)) w0 := by
  have hst := St.start [] w0
  have hk := Lib.hid (fun w (k : Keeps [] w0 w) => hF.keep k (by simp))
  have ha := fun w h => ask_bool f h1 h4 m hm 157 gf157 _ w h (fun w' _ => (class_Neg_1 f m).at w')
  clear hF hm
  generalize wNeg f m = x at *
  go_enter Tryz.func128, Tryz.ntmps128
  go_wp2_with ((first | (refine kg gf156 hst (fun w hst => ha w (hk.out w hst.keeps)) rfl rfl rfl rfl ?_; clear hst; intro w hst) | (refine kb 3 hst rfl rfl ?_; clear hst; intro b3 w hb3 hst) | (refine kl hst ta24 rfl ?_)); try simp only [pz, pn, sz, sc])
  refine bp_t rfl rfl (by rfl) ⟨?_, hst.keeps⟩
  rfl

theorem class_Field (f : Nat) (h1 : 1 ≤ f) (h4 : f ≤ 4) (m : Nat) (hm : m < 2 ^ fB f) (w0 : World) (hF : FmtIn w0) : GivesAt Tryz.prog 125 #[.int .i64 f, Wd m] (.int .i64 (wField f m : Nat)) w0 := by
  have hst := St.start [] w0
  have hk := Lib.hid (fun w (k : Keeps [] w0 w) => hF.keep k (by simp))
  have ha := fun w h => ask_int f h1 h4 m hm 153 gf153 _ w h (fun w' _ => (class_Field_1 f m).at w')
  clear hF hm
  generalize wField f m = x at *
  go_enter Tryz.func125, Tryz.ntmps125
  go_wp2_with ((first | (refine kg gf152 hst (fun w hst => ha w (hk.out w hst.keeps)) rfl rfl rfl rfl ?_; clear hst; intro w hst) | (refine kb 3 hst rfl rfl ?_; clear hst; intro b3 w hb3 hst) | (refine kl hst ta24 rfl ?_)); try simp only [pz, pn, sz, sc])
  refine bp_t rfl rfl (by rfl) ⟨?_, hst.keeps⟩
  rfl

theorem class_Fraction (f : Nat) (h1 : 1 ≤ f) (h4 : f ≤ 4) (m : Nat) (hm : m < 2 ^ fB f) (w0 : World) (hF : FmtIn w0) : GivesAt Tryz.prog 126 #[.int .i64 f, Wd m] (W (wFrac f m)) w0 := by
  have hst := St.start [] w0
  have hk := Lib.hid (fun w (k : Keeps [] w0 w) => hF.keep k (by simp))
  have ha := fun w h => ask_wide f h1 h4 m hm 155 gf155 _ w h (fun w' _ => (class_Fraction_1 f m).at w')
  clear hF hm
  generalize wFrac f m = x at *
  go_enter Tryz.func126, Tryz.ntmps126
  go_wp2_with ((first | (refine kg gf154 hst (fun w hst => ha w (hk.out w hst.keeps)) rfl rfl rfl rfl ?_; clear hst; intro w hst) | (refine kb 3 hst rfl rfl ?_; clear hst; intro b3 w hb3 hst) | (refine ka 4 hst tz44 rfl rfl ?_; clear hst; intro b4 w hb4 hst) | (refine kl hst ta24 rfl ?_) | (refine kt hst ta44 rfl rfl ?_; clear hst; intro w hst)); try simp only [pz, pn, sz, sc])
  refine bp_c rfl rfl (la hst ta44) ⟨?_, hst.keeps⟩
  rfl

/-- Does a word stand for a number? -/
def finB (f m : Nat) : Bool := decide (m < 2 ^ fB f) && decide (4 ≤ clsN f m)
theorem class_Finite (f : Nat) (h1 : 1 ≤ f) (h4 : f ≤ 4) (m : Nat) (hm2 : m < M2) (w0 : World) (hF : FmtIn w0) : GivesAt Tryz.prog 124 #[.int .i64 f, Wd m] (.bool (finB f m)) w0 := by
  have hst := St.start [] w0
  have hk := Lib.hid (fun w (k : Keeps [] w0 w) => hF.keep k (by simp))
  by_cases hm : m < 2 ^ fB f
  · have ha := fun w h => class_Of f h1 h4 m hm w h
    have e : finB f m = decide ((4 : Int) ≤ (clsN f m : Int)) := by
      unfold finB
      rw [decide_eq_true hm, Bool.true_and]
      exact decide_eq_decide.2 (by omega)
    rw [e]
    clear hF hm e
    generalize clsN f m = x at *
    go_enter Tryz.func124, Tryz.ntmps124
    go_wp2_with ((first | (refine kg gf151 hst (fun w hst => ha w (hk.out w hst.keeps)) rfl rfl rfl rfl ?_; clear hst; intro w hst) | (refine kb 3 hst rfl rfl ?_; clear hst; intro b3 w hb3 hst) | (refine kl hst ta24 rfl ?_)); try simp only [pz, pn, sz, sc])
    refine bp_t rfl rfl (by rfl) ⟨?_, hst.keeps⟩
    rfl
  · have ha := fun w h => class_Of_no f h1 h4 m hm2 hm w h
    have e : finB f m = false := by unfold finB; rw [decide_eq_false hm, Bool.false_and]
    rw [e]
    clear hF hm e
    go_enter Tryz.func124, Tryz.ntmps124
    go_wp2_with ((first | (refine kg gf151 hst (fun w hst => ha w (hk.out w hst.keeps)) rfl rfl rfl rfl ?_; clear hst; intro w hst) | (refine kb 3 hst rfl rfl ?_; clear hst; intro b3 w hb3 hst) | (refine kl hst ta24 rfl ?_)); try simp only [pz, pn, sz, sc])
    refine bp_t rfl rfl (by rfl) ⟨?_, hst.keeps⟩
    rfl

end Go.Proofs.YtefpoconpeggpaaGreatDoor.Rd
