/- What ref09.Cmp answers of a root. -/
import Derived.Test.YtefpoconpeggpaaGreatDoorL10
import Derived.Test.YtefpoconpeggpaaGreatDoorL04
import Derived.Laws.MakeOwn
namespace Go.Proofs.YtefpoconpeggpaaGreatDoor.Rd
open Go Go.RowKit
set_option linter.unusedVariables false
set_option linter.unusedSimpArgs false
set_option maxRecDepth 100000

set_option maxHeartbeats 4000000 in
theorem ref07_Size (va vb : Value) (la lb' a b : Nat) (na nb : Bool) (ea eb : Int) (hla : la ≤ 1000) (hlb : lb' ≤ 1000) (ha1 : -100000000 ≤ ea) (ha2 : ea ≤ 100000000) (hb1 : -100000000 ≤ eb) (hb2 : eb ≤ 100000000) (hba : bl a ≤ 32000) (hbb : bl b ≤ 32000) (w0 : World) (ha : BigAt w0 va la a) (hb : BigAt w0 vb lb' b) :
    GivesAt Tryz.prog 39 #[.agg #[.bool na, va, .int .i64 ea], .agg #[.bool nb, vb, .int .i64 eb]] (.int .i64 (szC a ea b eb)) w0 := by
  have hst := St.start [] w0
  have hl1 := fun w (h : BigAt w va la a) => ref01_Len va la a w h
  have hl2 := fun w (h : BigAt w vb lb' b) => ref01_Len vb lb' b w h
  have ha' := Lib.hid (fun w (k : Keeps [] w0 w) => ha.keep k)
  have hb' := Lib.hid (fun w (k : Keeps [] w0 w) => hb.keep k)
  unfold szC
  by_cases h0 : bl a = 0 ∨ bl b = 0
  · rw [if_pos h0]
    clear ha hb
    generalize bl a = x at *
    generalize bl b = y at *
    by_cases hx : x = 0
    · subst hx
      clear h0
      rw [show ((0 : Nat) : Int) = 0 from rfl] at hl1 ⊢
      go_enter Tryz.func39, Tryz.ntmps39
      go_wp2_with ((first | (refine kb 2 hst rfl rfl ?_; clear hst; intro b2 w hb2 hst) | (refine kb 3 hst rfl rfl ?_; clear hst; intro b3 w hb3 hst)); try simp only [pz, pn, sz, sc])
      refine wp_region_T 8  hst (by kernel_rfl) ?_; clear hst; intro w hst; (try simp only [List.length_cons, List.length_nil, Nat.reduceAdd, Array.replicate_succ, Array.replicate_zero, List.push_toArray, List.nil_append, List.cons_append])
      refine r0 0 ?_; simp only [pz, pn, sz, sc]
      refine r0 3 ?_; simp only [pz, pn, sz, sc]
      refine rl 1 rfl ?_ (ylC tc39); simp only [pz, pn, sz, sc]
      refine rl 4 rfl ?_ (ylC tc39); simp only [pz, pn, sz, sc]
      refine r1 2 ?_; (refine kg gf20 hst (fun w hst => hl1 w (ha'.out w hst.keeps)) rfl rfl rfl rfl ?_; clear hst; intro w hst); (try simp only [pz, pn, sz, sc]); refine re ?_
      refine r1 5 ?_; (refine kg gf20 hst (fun w hst => hl2 w (hb'.out w hst.keeps)) rfl rfl rfl rfl ?_; clear hst; intro w hst); (try simp only [pz, pn, sz, sc]); refine re ?_
      refine r0 6 ?_; simp only [pz, pn, sz, sc]
      refine r0 7 ?_; simp only [pz, pn, sz, sc]
      refine rd_ ?_
      all_goals
        go_wp2_with fail
        refine bp_t rfl rfl (by rfl) ⟨?_, hst.keeps⟩
        first | rfl | (simp; omega)
    · obtain rfl : y = 0 := by omega
      have Qx : ((x : Int) == 0) = false := by simp; omega
      clear h0 hx
      rw [show ((0 : Nat) : Int) = 0 from rfl] at hl2 ⊢
      go_enter Tryz.func39, Tryz.ntmps39
      go_wp2_with ((first | (refine kb 2 hst rfl rfl ?_; clear hst; intro b2 w hb2 hst) | (refine kb 3 hst rfl rfl ?_; clear hst; intro b3 w hb3 hst)); try simp only [pz, pn, sz, sc])
      refine wp_region_T 8  hst (by kernel_rfl) ?_; clear hst; intro w hst; (try simp only [List.length_cons, List.length_nil, Nat.reduceAdd, Array.replicate_succ, Array.replicate_zero, List.push_toArray, List.nil_append, List.cons_append])
      refine r0 0 ?_; simp only [pz, pn, sz, sc]
      refine r0 3 ?_; simp only [pz, pn, sz, sc]
      refine rl 1 rfl ?_ (ylC tc39); simp only [pz, pn, sz, sc]
      refine rl 4 rfl ?_ (ylC tc39); simp only [pz, pn, sz, sc]
      refine r1 2 ?_; (refine kg gf20 hst (fun w hst => hl1 w (ha'.out w hst.keeps)) rfl rfl rfl rfl ?_; clear hst; intro w hst); (try simp only [pz, pn, sz, sc]); refine re ?_
      refine r1 5 ?_; (refine kg gf20 hst (fun w hst => hl2 w (hb'.out w hst.keeps)) rfl rfl rfl rfl ?_; clear hst; intro w hst); (try simp only [pz, pn, sz, sc]); refine re ?_
      refine r0 6 ?_; simp only [pz, pn, sz, sc]
      refine r0 7 ?_; simp only [pz, pn, sz, sc]
      refine rd_ ?_
      all_goals
        go_wp2_with fail
        refine bp_t rfl rfl (by rfl) ⟨?_, hst.keeps⟩
        first | rfl | (simp; omega)
  · rw [if_neg h0]
    have Qx : ((bl a : Int) == 0) = false := by simp; omega
    have Qy : ((bl b : Int) == 0) = false := by simp; omega
    by_cases hd : ea + (bl a : Int) ≠ eb + bl b
    · rw [if_pos hd]
      have QD : ((ea + (bl a : Int)) != (eb + (bl b : Int))) = true := by simpa using hd
      have QD2 : ((ea + (bl a : Int)) == (eb + (bl b : Int))) = false := by simpa using hd
      clear ha hb hd h0
      generalize bl a = x at *
      generalize bl b = y at *
      go_enter Tryz.func39, Tryz.ntmps39
      go_wp2_with ((first | (refine kb 2 hst rfl rfl ?_; clear hst; intro b2 w hb2 hst) | (refine kb 3 hst rfl rfl ?_; clear hst; intro b3 w hb3 hst)); try simp only [pz, pn, sz, sc])
      refine wp_region_T 8  hst (by kernel_rfl) ?_; clear hst; intro w hst; (try simp only [List.length_cons, List.length_nil, Nat.reduceAdd, Array.replicate_succ, Array.replicate_zero, List.push_toArray, List.nil_append, List.cons_append])
      refine r0 0 ?_; simp only [pz, pn, sz, sc]
      refine r0 3 ?_; simp only [pz, pn, sz, sc]
      refine rl 1 rfl ?_ (ylC tc39); simp only [pz, pn, sz, sc]
      refine rl 4 rfl ?_ (ylC tc39); simp only [pz, pn, sz, sc]
      refine r1 2 ?_; (refine kg gf20 hst (fun w hst => hl1 w (ha'.out w hst.keeps)) rfl rfl rfl rfl ?_; clear hst; intro w hst); (try simp only [pz, pn, sz, sc]); refine re ?_
      refine r1 5 ?_; (refine kg gf20 hst (fun w hst => hl2 w (hb'.out w hst.keeps)) rfl rfl rfl rfl ?_; clear hst; intro w hst); (try simp only [pz, pn, sz, sc]); refine re ?_
      refine r0 6 ?_; simp only [pz, pn, sz, sc]
      refine r0 7 ?_; simp only [pz, pn, sz, sc]
      refine rd_ ?_
      all_goals
        go_wp2_with ((first | (refine kc hst tc3 rfl ?_)); try simp only [pz, pn, sz, sc])
        refine bp_t rfl rfl (by rfl) ⟨?_, hst.keeps⟩
        rfl
    · rw [if_neg hd]
      have hd' : ea + (bl a : Int) = eb + bl b := by omega
      have QD : ((ea + (bl a : Int)) != (eb + (bl b : Int))) = false := by simpa using hd'
      have QD2 : ((ea + (bl a : Int)) == (eb + (bl b : Int))) = true := by simpa using hd'
      obtain ⟨s1, hs1⟩ : ∃ s1, s1 = (ea - min ea eb).toNat := ⟨_, rfl⟩
      obtain ⟨s2, hs2⟩ : ∃ s2, s2 = (eb - min ea eb).toNat := ⟨_, rfl⟩
      rw [← hs1, ← hs2]
      have e1 : ea - min ea eb = (s1 : Int) := by omega
      have e2 : eb - min ea eb = (s2 : Int) := by omega
      have l1 : s1 ≤ 32000 := by omega
      have l2 : s2 ≤ 32000 := by omega
      have W1 : IntKind.i64.wrap (ea - min ea eb) = (s1 : Int) := by rw [e1, IntKind.wrap_i64]; omega
      have W2 : IntKind.i64.wrap (eb - min ea eb) = (s2 : Int) := by rw [e2, IntKind.wrap_i64]; omega
      have hsz : ∀ n s, bl n ≤ 32000 → s ≤ 32000 → dl (n * 2 ^ s) ≤ 100000 := fun n s h1 h2 => by
        have key : ∀ k, 64000 ≤ 32 * k → k ≤ 100000 → dl (n * 2 ^ s) ≤ 100000 := fun k hk hk2 => by
          refine Nat.le_trans (dl_le.2 ?_) hk2
          rw [show C = 2 ^ 32 from rfl, ← Nat.pow_mul]
          have a := Nat.mul_lt_mul_of_pos_right (bl_spec n).1 (show 0 < 2 ^ s from Nat.pow_pos (by omega))
          rw [← Nat.pow_add] at a
          exact Nat.lt_of_lt_of_le a (Nat.pow_le_pow_right (by omega) (by omega))
        exact key 2000 (by omega) (by omega)
      have c1 := fun w (h : BigAt w va la a) => ref01_Shl va la a s1 w h (by omega) (by omega)
      have c2 := fun w (h : BigAt w vb lb' b) => ref01_Shl vb lb' b s2 w h (by omega) (by omega)
      have z1 := hsz a s1 hba l1
      have z2 := hsz b s2 hbb l2
      have hcm : cmp (a * 2 ^ s1) (b * 2 ^ s2) = if a * 2 ^ s1 < b * 2 ^ s2 then -1 else if b * 2 ^ s2 < a * 2 ^ s1 then 1 else 0 := rfl
      rw [← hcm]
      have c3 := fun v1 v2 w (h1 : BigAt w v1 (dl (a * 2 ^ s1)) (a * 2 ^ s1)) (h2 : BigAt w v2 (dl (b * 2 ^ s2)) (b * 2 ^ s2)) => ref01_Cmp v1 v2 _ _ _ _ w h1 h2 z1 z2
      have m1 : min ea eb ≤ 100000000 := by omega
      have m2 : -100000000 ≤ min ea eb := by omega
      clear ha hb hd h0 hd' hcm hsz hs1 hs2 e1 e2
      generalize cmp (a * 2 ^ s1) (b * 2 ^ s2) = res at *
      generalize a * 2 ^ s1 = u at *
      generalize b * 2 ^ s2 = v at *
      generalize bl a = x at *
      generalize bl b = y at *
      go_enter Tryz.func39, Tryz.ntmps39
      go_wp2_with ((first | (refine kb 2 hst rfl rfl ?_; clear hst; intro b2 w hb2 hst) | (refine kb 3 hst rfl rfl ?_; clear hst; intro b3 w hb3 hst)); try simp only [pz, pn, sz, sc])
      refine wp_region_T 8  hst (by kernel_rfl) ?_; clear hst; intro w hst; (try simp only [List.length_cons, List.length_nil, Nat.reduceAdd, Array.replicate_succ, Array.replicate_zero, List.push_toArray, List.nil_append, List.cons_append])
      refine r0 0 ?_; simp only [pz, pn, sz, sc]
      refine r0 3 ?_; simp only [pz, pn, sz, sc]
      refine rl 1 rfl ?_ (ylC tc39); simp only [pz, pn, sz, sc]
      refine rl 4 rfl ?_ (ylC tc39); simp only [pz, pn, sz, sc]
      refine r1 2 ?_; (refine kg gf20 hst (fun w hst => hl1 w (ha'.out w hst.keeps)) rfl rfl rfl rfl ?_; clear hst; intro w hst); (try simp only [pz, pn, sz, sc]); refine re ?_
      refine r1 5 ?_; (refine kg gf20 hst (fun w hst => hl2 w (hb'.out w hst.keeps)) rfl rfl rfl rfl ?_; clear hst; intro w hst); (try simp only [pz, pn, sz, sc]); refine re ?_
      refine r0 6 ?_; simp only [pz, pn, sz, sc]
      refine r0 7 ?_; simp only [pz, pn, sz, sc]
      refine rd_ ?_
      all_goals
        go_wp2_with ((first | (refine kc hst tc3 rfl ?_)); try simp only [pz, pn, sz, sc])
        refine wp_region_T 16  hst (by kernel_rfl) ?_; clear hst; intro w hst; (try simp only [List.length_cons, List.length_nil, Nat.reduceAdd, Array.replicate_succ, Array.replicate_zero, List.push_toArray, List.nil_append, List.cons_append])
        refine r0 0 ?_; simp only [pz, pn, sz, sc, W1, W2]
        refine r0 2 ?_; simp only [pz, pn, sz, sc, W1, W2]
        refine r0 4 ?_; simp only [pz, pn, sz, sc, W1, W2]
        refine r0 7 ?_; simp only [pz, pn, sz, sc, W1, W2]
        refine r0 9 ?_; simp only [pz, pn, sz, sc, W1, W2]
        refine r0 11 ?_; simp only [pz, pn, sz, sc, W1, W2]
        refine rl 1 rfl ?_ (ylC tc39); simp only [pz, pn, sz, sc, W1, W2]
        refine rl 3 rfl ?_ (ylC tc3); simp only [pz, pn, sz, sc, W1, W2]
        refine r0 5 ?_; simp only [pz, pn, sz, sc, W1, W2]
        refine rl 8 rfl ?_ (ylC tc39); simp only [pz, pn, sz, sc, W1, W2]
        refine rl 10 rfl ?_ (ylC tc3); simp only [pz, pn, sz, sc, W1, W2]
        refine r0 12 ?_; simp only [pz, pn, sz, sc, W1, W2]
        refine r1 6 ?_; (refine wl_callB (o := ⟨some 54, _, _, _, _, _⟩) gf18 hst (fun w hst => c1 w (ha'.out w hst.keeps)) rfl rfl rfl rfl rfl ?_; clear hst; intro v54 Lg54 w hb54 hst; (try simp only [List.cons_append, List.nil_append, List.append_nil, List.append_assoc] at hst); (try simp only [pz, pn, sz, sc])); (try simp only [pz, pn, sz, sc, W1, W2]); refine re ?_
        refine r1 13 ?_; (refine wl_callB (o := ⟨some 61, _, _, _, _, _⟩) gf18 hst (fun w hst => c2 w (hb'.out w hst.keeps)) rfl rfl rfl rfl rfl ?_; clear hst; intro v61 Lg61 w hb61 hst; (try simp only [List.cons_append, List.nil_append, List.append_nil, List.append_assoc] at hst); (try simp only [pz, pn, sz, sc])); (try simp only [pz, pn, sz, sc, W1, W2]); refine re ?_
        refine r1 14 ?_; (refine kg gf27 hst (fun w hst => c3 _ _ w (hb54.at hst (fun x h => by simp [h])) (hb61.at hst (fun x h => by simp [h]))) rfl rfl rfl rfl ?_; clear hst; intro w hst); (try simp only [pz, pn, sz, sc, W1, W2]); refine re ?_
        refine r0 15 ?_; simp only [pz, pn, sz, sc, W1, W2]
        refine rd_ ?_
        all_goals
          go_wp2_with fail
          refine bp_t rfl rfl (by rfl) ⟨?_, hst.keeps⟩
          rfl

end Go.Proofs.YtefpoconpeggpaaGreatDoor.Rd

namespace Go.Proofs.YtefpoconpeggpaaGreatDoor.Rd
open Go Go.RowKit
set_option linter.unusedVariables false
set_option linter.unusedSimpArgs false
set_option maxRecDepth 100000

/-- The cells of a number of k digits. -/
def uw (k n : Nat) : Array Value := (Array.range k).map fun i => .int .u32 (dg n i : Nat)
@[simp] theorem uw_size (k n : Nat) : (uw k n).size = k := by simp [uw]
theorem uw_get (k n i : Nat) (h : i < k) : (uw k n)[i]? = some (.int .u32 (dg n i : Nat)) := by simp [uw, h]

theorem dg_add_at (n d k i : Nat) (hn : n < C ^ k) (hd : d < C) : dg (n + d * C ^ k) i = if i = k then d else dg n i := by
  unfold dg
  rcases Nat.lt_trichotomy i k with h | h | h
  · rw [if_neg (by omega)]
    have e : C ^ k = C ^ i * (C * C ^ (k - i - 1)) := by
      rw [← Nat.pow_succ', ← Nat.pow_add]; congr 1; omega
    rw [e, show n + d * (C ^ i * (C * C ^ (k - i - 1))) = n + C ^ i * (C * (d * C ^ (k - i - 1))) by
      rw [Nat.mul_left_comm, Nat.mul_left_comm d], Nat.add_mul_div_left _ _ (Cp_pos i), Nat.add_mul_mod_self_left]
  · subst h
    rw [if_pos rfl, Nat.add_mul_div_right _ _ (Cp_pos i), Nat.div_eq_of_lt hn, Nat.zero_add, Nat.mod_eq_of_lt hd]
  · rw [if_neg (by omega)]
    have h1 : n + d * C ^ k < C ^ (k + 1) := by
      rw [Nat.pow_succ, Nat.mul_comm (C ^ k)]
      calc n + d * C ^ k < C ^ k + d * C ^ k := by omega
        _ = (d + 1) * C ^ k := by rw [Nat.add_mul, Nat.one_mul, Nat.add_comm]
        _ ≤ C * C ^ k := Nat.mul_le_mul_right _ hd
    have h2 : C ^ (k + 1) ≤ C ^ i := Nat.pow_le_pow_right C_pos h
    have h3 : C ^ k ≤ C ^ i := Nat.pow_le_pow_right C_pos (by omega)
    rw [Nat.div_eq_of_lt (by omega), Nat.div_eq_of_lt (by omega)]

theorem dg_part (n o len i : Nat) (h : i < len) : dg (n / C ^ o % C ^ len) i = dg n (o + i) := by
  unfold dg
  have e : C ^ len = C ^ i * C ^ (len - i) := by rw [← Nat.pow_add]; congr 1; omega
  rw [e, Nat.mod_mul_right_div_self, Nat.div_div_eq_div_mul, ← Nat.pow_add, Nat.mod_mod_of_dvd]
  exact ⟨C ^ (len - i - 1), by rw [← Nat.pow_succ']; congr 1; omega⟩

/-- A number with another digit at a place. -/
def setC (m j d : Nat) : Nat := m % C ^ j + d * C ^ j + m / C ^ (j + 1) * C ^ (j + 1)

theorem setC_eq (m j d : Nat) : setC m j d + dg m j * C ^ j = m + d * C ^ j := by
  have h1 := Nat.div_add_mod m (C ^ (j + 1))
  have h2 := dg_split m j
  unfold setC
  rw [Nat.mul_comm] at h1
  omega

theorem dg_setC (m j d i : Nat) (hd : d < C) : dg (setC m j d) i = if i = j then d else dg m i := by
  have hlo : m % C ^ j < C ^ j := Nat.mod_lt _ (Cp_pos j)
  have hlow : m % C ^ j + d * C ^ j < C ^ (j + 1) := by
    rw [Nat.pow_succ, Nat.mul_comm (C ^ j)]
    have : (d + 1) * C ^ j ≤ C * C ^ j := Nat.mul_le_mul_right _ hd
    rw [Nat.add_mul, Nat.one_mul] at this
    omega
  unfold setC
  rcases Nat.lt_or_ge j i with h | h
  · rw [if_neg (by omega)]
    unfold dg
    have e : C ^ i = C ^ (j + 1) * C ^ (i - (j + 1)) := by rw [← Nat.pow_add]; congr 1; omega
    rw [e, ← Nat.div_div_eq_div_mul, ← Nat.div_div_eq_div_mul, Nat.add_mul_div_right _ _ (Cp_pos (j + 1)), Nat.div_eq_of_lt hlow, Nat.zero_add]
  · have e : m / C ^ (j + 1) * C ^ (j + 1) = C ^ i * (C * (m / C ^ (j + 1) * C ^ (j - i))) := by
      have : C ^ (j + 1) = C ^ i * (C * C ^ (j - i)) := by rw [← Nat.pow_succ', ← Nat.pow_add]; congr 1; omega
      rw [Nat.mul_comm (m / C ^ (j + 1)) (C ^ (j - i)), ← Nat.mul_assoc C, ← Nat.mul_assoc (C ^ i), ← this, Nat.mul_comm]
    have h2 : dg (m % C ^ j + d * C ^ j + m / C ^ (j + 1) * C ^ (j + 1)) i = dg (m % C ^ j + d * C ^ j) i := by
      unfold dg
      rw [e, Nat.add_mul_div_left _ _ (Cp_pos i), Nat.add_mul_mod_self_left]
    rw [h2, dg_add_at _ _ _ _ hlo hd]
    by_cases hij : i = j
    · rw [if_pos hij, if_pos hij]
    · rw [if_neg hij, if_neg hij]
      have := dg_part m 0 j i (by omega)
      simpa using this

theorem uw_setC (k m j d : Nat) (hd : d < C) : (uw k m).setIfInBounds j (.int .u32 (d : Nat)) = uw k (setC m j d) := by
  apply Array.ext_getElem?
  intro i
  rw [Array.getElem?_setIfInBounds]
  by_cases hk : i < k
  · rw [uw_get k _ i hk, uw_get k _ i hk, dg_setC m j d i hd, uw_size]
    by_cases h : j = i
    · subst h; simp [hk]
    · rw [if_neg h, if_neg (by omega)]
  · have e1 : (uw k m)[i]? = none := Array.getElem?_eq_none (by simp; omega)
    have e2 : (uw k (setC m j d))[i]? = none := Array.getElem?_eq_none (by simp; omega)
    rw [e1, e2, uw_size]
    split
    · rename_i h; subst h; rw [if_neg hk]
    · rfl

theorem setC_lt (m j d k : Nat) (hm : m < C ^ k) (hd : d < C) (hj : j < k) : setC m j d < C ^ k := by
  have h : setC m j d % C ^ k = setC m j d := by
    have : setC m j d / C ^ k = 0 := by
      have e : C ^ k = C ^ (j + 1) * C ^ (k - (j + 1)) := by rw [← Nat.pow_add]; congr 1; omega
      have hlow : m % C ^ j + d * C ^ j < C ^ (j + 1) := by
        have hlo : m % C ^ j < C ^ j := Nat.mod_lt _ (Cp_pos j)
        rw [Nat.pow_succ, Nat.mul_comm (C ^ j)]
        have : (d + 1) * C ^ j ≤ C * C ^ j := Nat.mul_le_mul_right _ hd
        rw [Nat.add_mul, Nat.one_mul] at this
        omega
      unfold setC
      rw [e, ← Nat.div_div_eq_div_mul, Nat.add_mul_div_right _ _ (Cp_pos (j + 1)), Nat.div_eq_of_lt hlow, Nat.zero_add, Nat.div_div_eq_div_mul, ← e]
      exact Nat.div_eq_of_lt hm
    rw [Nat.mod_eq_of_lt]
    exact (Nat.div_eq_zero_iff_lt (Cp_pos k)).1 this
  rw [← h]
  exact Nat.mod_lt _ (Cp_pos k)

section
variable {P : Program} {ops : Array Oper} {rest : List Oper} {Q : Exit → Act → World → Prop} {a : Act} {w w0 : World} {S : List Nat} {L : List (Nat × Obj)}
theorem run_opLoadOld {o : Oper} {T : TypeId} {x : Operand} {b i : Nat} {cs : Array Value} {E : TypeId} {fr : Nat × Nat} {v : Value} (hk : Keeps [] w0 w) (hT : CellT P T) (ho : o.op = .load T x) (hx : a.eval x = .pointer (some ⟨b, i, none⟩))
    (hb : w0.heap[b]? = some (.cells cs E fr)) (hv : cs[i]? = some v) : (execOp a.eval o).run P w = .ok (.value v) w := by
  have hb' : w.heap[b]? = some (.cells cs E fr) := by rw [hk.block b (lt_of_some hb) (by simp)]; exact hb
  unfold execOp
  simp only [ho, hx, Sem.run_bind, run_loadCell hT hb' hv, Sem.run_pure, Result.andThen_ok]
/-- make, of elements of one cell. -/
theorem wl_make {o : Oper} {T e : TypeId} {x y : Operand} {z : Value} {n bytes : Nat} {cs : Array Value} (hst : St w0 S L w) (hT : SliceT P T e) (he : ElemT P e 1 z) (hby : BytesT P e bytes) (hg : o.guard = none) (ho : o.op = .makeSlice T x y)
    (hx : a.eval x = .int .i64 (n : Int)) (hy : a.eval y = .int .i64 (n : Int)) (hcs : madeCells z.cells n = cs) (hroom : bytes * n ≤ 281474976710656) (hn : n ≤ 9223372036854775807)
    (h : ∀ b w', w0.heap.size ≤ b → St w0 S ((b, .cells cs e) :: L) w' → wpList P ops Q rest (a.put o.dst (.slice (some ⟨b, 0, none⟩) n n)) w') : wpList P ops Q (o :: rest) a w := by
  obtain ⟨i, hi, hisz, hz⟩ := he
  have hby' : i.bytes = bytes := by simpa [BytesT, hi] using hby
  have hr := run_make (P := P) w T e i z hT hi hz .i64 .i64 n n (by omega) (by omega) (by rw [hby']; have : ((bytes * n : Nat) : Int) ≤ 281474976710656 := by omega
                                                                                          rwa [Int.natCast_mul] at this) (by omega)
  simp only [Int.toNat_natCast, hisz, Nat.mul_one, hcs] at hr
  refine wpList_plain hg fun K hK => ?_
  unfold Oper.wp execOp
  simp only [ho, hx, hy, Sem.run_bind, hr, Sem.run_pure, Result.andThen_ok]
  exact hK _ _ (h _ _ hst.keeps.size (hst.alloc _))
end

theorem made_u32 (n : Nat) : madeCells #[.int .u32 0] n = uw n 0 := by
  unfold madeCells uw
  apply Array.ext
  · simp
  · intro i h1 h2
    simp [dg, Nat.mod_one]

/-- A slice of a block of digits. -/
theorem big_of_uw {w0 : World} {L : List (Nat × Obj)} {g l n : Nat} {E : TypeId} (hn : n < C ^ l) (hl : l ≤ 1000000) (hg : w0.heap.size ≤ g) (hm : (g, .cells (uw l n) E (0, 0)) ∈ L) :
    (∀ S w, St w0 S L w → BigAt w (.slice (some ⟨g, 0, none⟩) l l) l n) ∧ BigIn w0.heap.size [(g, .cells (uw l n) E (0, 0))] (.slice (some ⟨g, 0, none⟩) (dl n) l) n := by
  have hd : dl n ≤ l := dl_le.2 hn
  exact ⟨fun S w hst => ⟨hn, hl, _, l, rfl, Nat.le_refl _, fun _ => ⟨g, _, E, rfl, hst.own _ _ hm, fun j hj => uw_get l n j hj⟩⟩, by simpa using hg, by simp, by omega, _, l, rfl, hd, fun _ => ⟨g, _, E, rfl, by simp, fun j hj => uw_get l n j (by omega)⟩⟩

/-- A step of a product's carry. -/
theorem mul_step (m j c x y : Nat) (hc : c < C) (hx : x < C) (hy : y < C) :
    c + dg m j + x * y < C * C ∧ (c + dg m j + x * y) / C < C ∧ setC m j ((c + dg m j + x * y) % C) + (c + dg m j + x * y) / C * C ^ (j + 1) = m + c * C ^ j + x * y * C ^ j := by
  have hd := dg_lt m j
  have h := setC_eq m j ((c + dg m j + x * y) % C)
  have hlt : c + dg m j + x * y < C * C := by
    have h1 : x * y ≤ (C - 1) * (C - 1) := Nat.mul_le_mul (by omega) (by omega)
    have h2 : (C - 1) * (C - 1) + (C - 1) + (C - 1) < C * C := by decide
    omega
  have e := Nat.div_add_mod (c + dg m j + x * y) C
  refine ⟨hlt, (Nat.div_lt_iff_lt_mul C_pos).2 hlt, ?_⟩
  generalize (c + dg m j + x * y) / C = q at *
  generalize (c + dg m j + x * y) % C = r at *
  have e2 : (C * q + r) * C ^ j = (c + dg m j + x * y) * C ^ j := by rw [e]
  rw [Nat.add_mul, Nat.add_mul, Nat.add_mul] at e2
  have e3 : q * C ^ (j + 1) = C * q * C ^ j := by rw [Nat.pow_succ', ← Nat.mul_assoc, Nat.mul_comm q]
  omega

end Go.Proofs.YtefpoconpeggpaaGreatDoor.Rd

namespace Go.Proofs.YtefpoconpeggpaaGreatDoor.Rd
open Go Go.RowKit
set_option linter.unusedVariables false
set_option linter.unusedSimpArgs false
set_option maxRecDepth 100000

set_option maxHeartbeats 8000000 in
theorem ref01_Mul (va vb : Value) (la lb' a b : Nat) (w0 : World) (ha : BigAt w0 va la a) (hb : BigAt w0 vb lb' b) (hla : la ≤ 100000) (hlb : lb' ≤ 100000) : GivesB Tryz.prog 38 #[va, vb] (a * b) w0 := by
  have hst := St.start [] w0
  obtain ⟨han, _, aa, capa, rfl, _, hmema⟩ := ha
  obtain ⟨hbn, _, ab, capb, rfl, _, hmemb⟩ := hb
  obtain ⟨L, hL⟩ : ∃ L, L = la + lb' := ⟨_, rfl⟩
  have hL' : (la : Int) + (lb' : Int) = (L : Int) := by omega
  have hLl : L ≤ 200000 := by omega
  have hL1 : la + lb' ≤ L := by omega
  have hL2 : L ≤ la + lb' := by omega
  clear hL
  have hmade := made_u32 L
  have hmade' := Lib.hid hmade
  clear hmade
  go_enter Tryz.func38, Tryz.ntmps38
  go_wp2_with ((first | (refine wl_make (bytes := 4) (o := ⟨some 14, _, _, _, _, _⟩) hst (show SliceT _ 39 72 by unfold SliceT; kernel_rfl) (show ElemT _ 72 1 (.int .u32 0) from ElemT.of (by kernel_rfl)) (show BytesT _ _ _ by unfold BytesT; kernel_rfl) rfl rfl (by rfl) (by rfl) hmade'.out (by omega) (by omega) ?_; clear hst; intro b14 w hb14 hst; (try simp only [pz, pn, sz, sc]))); try simp only [pz, pn, sz, sc])
  go_loopw [6] (fun vi wr => ∃ (i : Nat), i ≤ la ∧ vi = .int .i64 i ∧ St w0 [] [(b14, .cells (uw L (a % C ^ i * b)) 72 (0, 0))] wr) (fun vi _ => la - (intOf vi).toNat)
  case atStart => exact ⟨0, by omega, rfl, by simpa [Nat.mod_one] using hst⟩
  case round =>
    clear hst
    obtain ⟨i, hi, rfl, hst⟩ := hrel
    by_cases hlt : i < la
    · have hila : (i : Int) < (la : Int) := by omega
      have h0i : (0 : Int) ≤ (i : Int) := by omega
      have hm0 : a % C ^ i * b < C ^ (i + lb') := by
        rw [Nat.pow_add]
        exact Nat.mul_lt_mul'' (Nat.mod_lt _ (Cp_pos i)) hbn
      go_wp2_with fail
      go_loopw [8, 7] (fun vk vc wr => ∃ (k c m : Nat), k ≤ lb' ∧ vk = .int .i64 k ∧ vc = .int .u64 c ∧ c < C ∧ m < C ^ (i + lb') ∧ m + c * C ^ (i + k) = a % C ^ i * b + dg a i * (b % C ^ k) * C ^ i ∧ St w0 [] [(b14, .cells (uw L m) 72 (0, 0))] wr) (fun vk _ _ => lb' - (intOf vk).toNat)
      case atStart => exact ⟨0, 0, _, by omega, rfl, rfl, C_pos, hm0, by simp [Nat.mod_one], hst⟩
      case round =>
        clear hst hm0
        obtain ⟨k, c, m, hk, rfl, rfl, hc, hm, he, hst⟩ := hrel
        by_cases hkl : k < lb'
        · obtain ⟨ga, cura, Ea, rfl, hga, hca⟩ := hmema (by omega)
          obtain ⟨gb, curb, Eb, rfl, hgb, hcb⟩ := hmemb (by omega)
          have hcx := hca i hlt
          have hcy := hcb k hkl
          have hx := dg_lt a i
          have hy := dg_lt b k
          have hsb := dg_split b k
          obtain ⟨j, hj⟩ : ∃ j, j = i + k := ⟨_, rfl⟩
          have hej := uw_get L m j (by omega)
          have hed := dg_lt m j
          obtain ⟨s1, s2, s3⟩ := mul_step m j c (dg a i) (dg b k) hc hx hy
          have hsl := setC_lt m j ((c + dg m j + dg a i * dg b k) % C) (i + lb') hm (Nat.mod_lt _ C_pos) (by omega)
          have hset := uw_setC L m j ((c + dg m j + dg a i * dg b k) % C) (Nat.mod_lt _ C_pos)
          have he' : setC m j ((c + dg m j + dg a i * dg b k) % C) + (c + dg m j + dg a i * dg b k) / C * C ^ (i + (k + 1)) = a % C ^ i * b + dg a i * (b % C ^ (k + 1)) * C ^ i := by
            rw [show i + (k + 1) = j + 1 by omega, s3, hsb, hj, he, Nat.mul_add, Nat.add_mul, Nat.pow_add]
            have e1 : dg a i * (dg b k * C ^ k) * C ^ i = dg a i * dg b k * (C ^ i * C ^ k) := by
              rw [Nat.mul_comm (C ^ i), ← Nat.mul_assoc, ← Nat.mul_assoc]
            omega
          obtain ⟨x, hx'⟩ : ∃ x, x = dg a i := ⟨_, rfl⟩
          rw [← hx'] at hset he' hsl hcx s1 s2 hx
          generalize dg b k = y at *
          generalize dg m j = e at *
          obtain ⟨p, hp⟩ : ∃ p, p = x * y := ⟨_, rfl⟩
          obtain ⟨t1, ht1⟩ : ∃ t1, t1 = c + e := ⟨_, rfl⟩
          obtain ⟨t2, ht2⟩ : ∃ t2, t2 = c + e + x * y := ⟨_, rfl⟩
          rw [← ht2] at hset he' hsl s1 s2
          obtain ⟨d, hd⟩ : ∃ d, d = t2 % C := ⟨_, rfl⟩
          obtain ⟨q, hq⟩ : ∃ q, q = t2 / C := ⟨_, rfl⟩
          rw [← hd] at hset he' hsl
          rw [← hq] at he' s2
          have hCC : C * C = B := by decide
          rw [hCC] at s1
          have hpB : p < B := by omega
          rw [C_val] at hx hy hed hc
          have W1 : IntKind.u64.wrap (x : Int) = (x : Int) := by rw [u64_wrap, Nat.mod_eq_of_lt (by rw [B_val]; omega)]
          have W2 : IntKind.u64.wrap (y : Int) = (y : Int) := by rw [u64_wrap, Nat.mod_eq_of_lt (by rw [B_val]; omega)]
          have W3 : IntKind.u64.wrap (e : Int) = (e : Int) := by rw [u64_wrap, Nat.mod_eq_of_lt (by rw [B_val]; omega)]
          have W4 : IntKind.u64.wrap ((x : Int) * (y : Int)) = (p : Int) := u64_wrap' _ p _ (by rw [hp]; exact (Int.natCast_mul _ _).symm) (Nat.mod_eq_of_lt hpB)
          have W5 : IntKind.u64.wrap ((c : Int) + (e : Int)) = (t1 : Int) := u64_wrap' _ t1 _ (by omega) (Nat.mod_eq_of_lt (by rw [B_val]; omega))
          have W6 : IntKind.u64.wrap ((t1 : Int) + (p : Int)) = (t2 : Int) := u64_wrap' _ t2 _ (by omega) (Nat.mod_eq_of_lt s1)
          have W7 : IntKind.u32.wrap (t2 : Int) = (d : Int) := by rw [u32_wrap, hd]
          have W8 : (t2 : Int) / 4294967296 = (q : Int) := by rw [C_val] at hq; omega
          have J1 : (i : Int) + (k : Int) = (j : Int) := by omega
          have J2 : (0 : Int) ≤ (j : Int) := by omega
          have J5 : IntKind.i64.wrap (j : Int) = (j : Int) := by rw [IntKind.wrap_i64]; omega
          have J3 : (j : Int) < (L : Int) := by omega
          have J4 : j < L := by omega
          have K1 : (0 : Int) ≤ (k : Int) := by omega
          have K2 : (k : Int) < (lb' : Int) := by omega
          have hset' := Lib.hid hset
          have he'' := Lib.hid he'
          have s2' := Lib.hid s2
          have hsl' := Lib.hid hsl
          have hga' := Lib.hid hga
          have hgb' := Lib.hid hgb
          have hxx := Lib.hid hx'
          clear hset he' s2 hsl s1 s3 he hm hc hed hsb hy hx hd hq ht1 ht2 hp hpB hCC hca hcb hga hgb hj hx' hmema hmemb hL2
          go_wp2_with fail
          refine wp_region_T 22  hst (by kernel_rfl) ?_; clear hst; intro w hst; (try simp only [List.length_cons, List.length_nil, Nat.reduceAdd, Array.replicate_succ, Array.replicate_zero, List.push_toArray, List.nil_append, List.cons_append])
          refine r0 0 ?_; simp only [pz, pn, sz, sc]
          refine r0 1 ?_; simp only [pz, pn, sz, sc]
          refine r0 2 ?_; simp only [pz, pn, sz, sc]
          refine r0 3 ?_; simp only [pz, pn, sz, sc]
          refine r0 4 ?_; simp only [pz, pn, sz, sc]
          refine r0 5 ?_; simp only [pz, pn, sz, sc]
          refine r0 9 ?_; simp only [pz, pn, sz, sc]
          refine r0 10 ?_; simp only [pz, pn, sz, sc]
          refine r0 11 ?_; simp only [pz, pn, sz, sc]
          refine r0 14 ?_; simp only [pz, pn, sz, sc]
          refine r0 15 ?_; simp only [pz, pn, sz, sc]
          refine r0 16 ?_; simp only [pz, pn, sz, sc]
          refine rl 6 rfl ?_ (by first | exact fun w hw => run_opLoadOld hw.keeps tc72 rfl (by rfl) hga'.out hcx | exact fun w hw => run_opLoadOld hw.keeps tc72 rfl (by rfl) hgb'.out hcy | exact ylC tc72); simp only [pz, pn, sz, sc]
          refine r0 7 ?_; simp only [pz, pn, sz, sc]
          refine r0 8 ?_; simp only [pz, pn, sz, sc]
          refine rl 12 rfl ?_ (by first | exact fun w hw => run_opLoadOld hw.keeps tc72 rfl (by rfl) hga'.out hcx | exact fun w hw => run_opLoadOld hw.keeps tc72 rfl (by rfl) hgb'.out hcy | exact ylC tc72); simp only [pz, pn, sz, sc]
          refine r0 13 ?_; simp only [pz, pn, sz, sc]
          refine rl 17 rfl ?_ (by first | exact fun w hw => run_opLoadOld hw.keeps tc72 rfl (by rfl) hga'.out hcx | exact fun w hw => run_opLoadOld hw.keeps tc72 rfl (by rfl) hgb'.out hcy | exact ylC tc72); simp only [pz, pn, sz, sc]
          refine r0 18 ?_; simp only [pz, pn, sz, sc]
          refine r0 19 ?_; simp only [pz, pn, sz, sc]
          refine r0 20 ?_; simp only [pz, pn, sz, sc]
          refine r0 21 ?_; simp only [pz, pn, sz, sc]
          refine rd_ ?_
          go_wp2_with ((first | (refine ks hst tc72 rfl rfl ?_; clear hst; intro w hst; (try rw [hset'.out] at hst))); try simp only [pz, pn, sz, sc])
          refine ⟨⟨k + 1, q, _, by omega, by go_num, rfl, s2'.out, hsl'.out, by rw [← hxx.out]; exact he''.out, hst⟩, ?_⟩
          simp [intOf]; omega
        · have hke : k = lb' := by omega
          subst hke
          rw [Nat.mod_eq_of_lt hbn] at he
          obtain ⟨j, hj⟩ : ∃ j, j = i + k := ⟨_, rfl⟩
          have hz : dg m j = 0 := dg_ge hm (by omega)
          have hset := uw_setC L m j c hc
          have hse := setC_eq m j c
          rw [hz, Nat.zero_mul, Nat.add_zero, hj, he] at hse
          have hfin : a % C ^ i * b + dg a i * b * C ^ i = a % C ^ (i + 1) * b := by
            rw [dg_split, Nat.add_mul, Nat.mul_right_comm]
          rw [hfin] at hse
          rw [hj, hse] at hset
          have W1 : IntKind.u32.wrap (c : Int) = (c : Int) := by rw [u32_wrap, Nat.mod_eq_of_lt hc]
          have J1 : (i : Int) + (k : Int) = (j : Int) := by omega
          have J2 : (0 : Int) ≤ (j : Int) := by omega
          have J3 : (j : Int) < (L : Int) := by omega
          have J4 : j < L := by omega
          have J5 : IntKind.i64.wrap (j : Int) = (j : Int) := by rw [IntKind.wrap_i64]; omega
          rw [← hj] at hset
          have hset' := Lib.hid hset
          have hkl' : ¬ ((k : Int) < (k : Int)) := by omega
          clear hset hse hfin hz he hm hc hj hmema hmemb hL2 hkl hk hbn han
          go_wp2_with ((first | (refine ks hst tc72 rfl rfl ?_; clear hst; intro w hst; (try rw [hset'.out] at hst))); try simp only [pz, pn, sz, sc])
          refine ⟨⟨i + 1, by omega, by go_num, hst⟩, ?_⟩
          simp [intOf]; omega
    · have hie : i = la := by omega
      subst hie
      rw [Nat.mod_eq_of_lt han] at hst
      have hV : a * b < C ^ L := by
        refine Nat.lt_of_lt_of_le ?_ (Nat.pow_le_pow_right C_pos hL1)
        rw [Nat.pow_add]
        exact Nat.mul_lt_mul'' han hbn
      obtain ⟨hat, hbi⟩ := big_of_uw (E := 72) (L := [(b14, .cells (uw L (a * b)) 72 (0, 0))]) hV (by omega) hb14 (by simp)
      have htr := fun w hst => ref01_trim (some ⟨b14, 0, none⟩) L L (a * b) w (hat [] w hst)
      have hi1 : ¬ ((i : Int) < (i : Int)) := by omega
      clear hat hV hlt hi hmema hmemb han hbn
      go_wp2_with ((first | (refine kg gf41 hst (htr) rfl rfl rfl rfl ?_; clear hst; intro w hst)); try simp only [pz, pn, sz, sc])
      refine bp_t rfl rfl (by rfl) (PostB.of hst hbi (fun x h => h))

end Go.Proofs.YtefpoconpeggpaaGreatDoor.Rd

namespace Go.Proofs.YtefpoconpeggpaaGreatDoor.Rd
open Go Go.RowKit
set_option linter.unusedVariables false
set_option linter.unusedSimpArgs false
set_option maxRecDepth 100000

theorem BigIn.slice {s : Nat} {Lg : List (Nat × Obj)} {v : Value} {n : Nat} (h : BigIn s Lg v n) : ∃ a l c, v = .slice a l c := by
  obtain ⟨_, _, _, a, c, h1, _⟩ := h
  exact ⟨_, _, _, h1⟩
theorem BigAt.slice {w : World} {v : Value} {l n : Nat} (h : BigAt w v l n) : ∃ a l c, v = .slice a l c := by
  obtain ⟨_, _, a, c, h1, _⟩ := h
  exact ⟨_, _, _, h1⟩
theorem build_num (a : Option Addr) (l c : Nat) (e : Int) (w : World) : (Instr.build 61 (List.toArray [(1, .slice a l c), (2, .int .i64 e)])).run Tryz.prog w = .ok (.agg #[.bool false, .slice a l c, .int .i64 e]) w := by kernel_rfl
theorem sq_small (m lm : Nat) (h : m < C ^ lm) (hl : lm ≤ 300) : dl (m * m) ≤ 1000 ∧ bl (m * m) ≤ 32000 := by
  have h1 : m * m < C ^ (lm + lm) := by rw [Nat.pow_add]; exact Nat.mul_self_lt_mul_self h
  have key : ∀ k, lm + lm ≤ k → k ≤ 1000 → dl (m * m) ≤ 1000 ∧ bl (m * m) ≤ 32000 := fun k hk hk2 => by
    have h2 : m * m < C ^ k := Nat.lt_of_lt_of_le h1 (Nat.pow_le_pow_right C_pos hk)
    refine ⟨Nat.le_trans (dl_le.2 h2) hk2, ?_⟩
    rw [show C = 2 ^ 32 from rfl, ← Nat.pow_mul] at h2
    have := bl_le.2 h2
    omega
  exact key (lm + lm) (Nat.le_refl _) (by omega)

set_option maxHeartbeats 2000000 in
theorem ref09_Cmp_root (vm vN vD : Value) (lm lN lD m N : Nat) (ng : Bool) (k E : Int) (hlm : lm ≤ 300) (hlN : lN ≤ 300) (hlD : lD ≤ 300) (hk1 : -40000000 ≤ k) (hk2 : k ≤ 40000000) (hE1 : -100000000 ≤ E) (hE2 : E ≤ 100000000) (w0 : World) (hm : BigAt w0 vm lm m) (hN : BigAt w0 vN lN N) (hD : BigAt w0 vD lD 1) :
    GivesAt Tryz.prog 15 #[vm, .int .i64 k, .agg #[.bool ng, .int .i64 2, vN, vD, .int .i64 E]] (.int .i64 (szC (m * m) (2 * k) N E)) w0 := by
  have hst := St.start [] w0
  obtain ⟨s1, s2⟩ := sq_small m lm hm.1 hlm
  have hNb : bl N ≤ 32000 := by
    have h := hN.1
    rw [show C = 2 ^ 32 from rfl, ← Nat.pow_mul] at h
    have := bl_le.2 h
    omega
  have c1 := fun w (h : BigAt w vm lm m) => ref01_Mul vm vm lm lm m m w h h (by omega) (by omega)
  have c2 := fun v w (h : BigAt w v (dl (m * m)) (m * m)) (hd : BigAt w vD lD 1) => ref01_Mul v vD _ lD (m * m) 1 w h hd (by omega) (by omega)
  simp only [Nat.mul_one] at c2
  have c3 := fun v w (h : BigAt w v (dl (m * m)) (m * m)) (hn : BigAt w vN lN N) => ref07_Size v vN _ lN (m * m) N false false (2 * k) E s1 (by omega) (by omega) (by omega) hE1 hE2 s2 hNb w h hn
  have hm' := Lib.hid (fun w (k : Keeps [] w0 w) => hm.keep k)
  have hN' := Lib.hid (fun w (k : Keeps [] w0 w) => hN.keep k)
  have hD' := Lib.hid (fun w (k : Keeps [] w0 w) => hD.keep k)
  obtain ⟨aN, xN, yN, rfl⟩ := hN.slice
  have hW : IntKind.i64.wrap (2 * k) = 2 * k := by rw [IntKind.wrap_i64]; omega
  have hbn := build_num
  clear hm hN hD s1 s2 hNb
  generalize szC (m * m) (2 * k) N E = res at *
  generalize m * m = mm at *
  go_enter Tryz.func15, Tryz.ntmps15
  go_wp2_with ((first | (refine wl_callB (o := ⟨some 16, _, _, _, _, _⟩) gf38 hst (fun w hst => c1 w (hm'.out w hst.keeps)) rfl rfl rfl rfl rfl ?_; clear hst; intro v16 Lg16 w hb16 hst; (try simp only [List.cons_append, List.nil_append, List.append_nil, List.append_assoc] at hst); (try simp only [pz, pn, sz, sc])) | (refine kb 5 hst rfl rfl ?_; clear hst; intro b5 w hb5 hst) | (refine kc hst tc3 rfl ?_)); try simp only [pz, pn, sz, sc])
  refine wp_region_TV 13 [(b5, .cells #[.bool ng, .int .i64 2, .slice aN xN yN, vD, .int .i64 E] 41)] hst (by kernel_rfl) ?_; clear hst; intro w hst; (try simp only [List.length_cons, List.length_nil, Nat.reduceAdd, Array.replicate_succ, Array.replicate_zero, List.push_toArray, List.nil_append, List.cons_append])
  refine r0 0 ?_; simp only [pz, pn, sz, sc]
  refine r0 1 ?_; simp only [pz, pn, sz, sc]
  refine r0 4 ?_; simp only [pz, pn, sz, sc]
  refine r0 6 ?_; simp only [pz, pn, sz, sc]
  refine r0 8 ?_; simp only [pz, pn, sz, sc]
  refine rl 2 rfl ?_ (ylC tc39); simp only [pz, pn, sz, sc]
  refine rl 7 rfl ?_ (ylC tc39); simp only [pz, pn, sz, sc]
  refine rl 9 rfl ?_ (ylC tc3); simp only [pz, pn, sz, sc]
  refine r0 10 ?_ (hy := yB ((fun w => hbn _ _ _ _ w))); simp only [pz, pn, sz, sc]
  refine r1 3 ?_; (refine wl_callB (o := ⟨some 32, _, _, _, _, _⟩) gf38 hst (fun w hst => c2 _ w (hb16.at hst (fun x h => by simp [h])) (hD'.out w hst.keeps)) rfl rfl rfl rfl rfl ?_; clear hst; intro v32 Lg32 w hb32 hst; (try simp only [List.cons_append, List.nil_append, List.append_nil, List.append_assoc] at hst); obtain ⟨a32, x32, y32, rfl⟩ := hb32.slice); (try simp only [pz, pn, sz, sc]); refine re ?_
  refine r0 5 ?_ (hy := yB ((fun w => hbn _ _ _ _ w))); simp only [pz, pn, sz, sc]
  refine r1 11 ?_; (refine kg gf39 hst (fun w hst => c3 _ w (hb32.at hst (fun x h => by simp [h])) (hN'.out w hst.keeps)) rfl rfl rfl rfl ?_; clear hst; intro w hst); (try simp only [pz, pn, sz, sc]); refine re ?_
  refine r0 12 ?_; simp only [pz, pn, sz, sc]
  refine rd_ ?_
  all_goals
    go_wp2_with fail
    refine bp_t rfl rfl (by rfl) ⟨?_, hst.keeps⟩
    rfl

end Go.Proofs.YtefpoconpeggpaaGreatDoor.Rd
