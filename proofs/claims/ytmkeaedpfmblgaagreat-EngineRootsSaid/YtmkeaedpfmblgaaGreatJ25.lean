/- What the reference of roots answers. -/
import Derived.Test.YtmkeaedpfmblgaaGreatJ22
import Derived.Test.YtmkeaedpfmblgaaGreatJ24
namespace Go.Proofs.YtmkeaedpfmblgaaGreat.Rd
open Go Go.RowKit
set_option linter.unusedVariables false
set_option linter.unusedSimpArgs false
set_option maxRecDepth 100000

theorem ref12_May (n : Nat) (hn : n < M) : Gives Tryz.prog 24 #[W n] (.bool (decide (n < 2 ^ 256))) := by
  intro w0
  have hst := St.start [] w0
  have hb := fun w => ref02_Big n hn w
  have hl := fun v w (h : BigAt w v (dl n) n) => ref01_Len v (dl n) n w h
  have hd : decide (n < 2 ^ 256) = decide ((bl n : Int) ≤ 256) := by
    have := @bl_le n 256
    by_cases h : n < 2 ^ 256
    · rw [decide_eq_true h, decide_eq_true (by have := this.2 h; omega)]
    · rw [decide_eq_false h, decide_eq_false (by intro h'; exact h (this.1 (by omega)))]
  rw [hd]
  clear hd
  go_enter Tryz.func24, Tryz.ntmps24
  go_wp2_with ((first | (refine wl_callB (o := ⟨some 4, _, _, _, _, _⟩) gf29 hst (fun w hst => hb w) rfl rfl rfl rfl rfl ?_; clear hst; intro v4 Lg4 w hb4 hst; (try simp only [List.cons_append, List.nil_append, List.append_nil, List.append_assoc] at hst); (try simp only [pz, pn, sz, sc])) | (refine kg gf30 hst (fun w hst => hl _ w (hb4.at hst (fun x h => by simp [h]))) rfl rfl rfl rfl ?_; clear hst; intro w hst) | (refine kb 1 hst rfl rfl ?_; clear hst; intro b1 w hb1 hst) | (refine kl hst ta24 rfl ?_) | (refine klm hst ta24 rfl ?_)); try simp only [pz, pn, sz, sc])
  refine bp_t rfl rfl (by rfl) ⟨?_, hst.keeps⟩
  rfl

theorem dl_pow (x k : Nat) (h : x < 2 ^ (32 * k)) : dl x ≤ k := dl_le.2 (by rw [show C = 2 ^ 32 from rfl, ← Nat.pow_mul]; exact h)

set_option maxHeartbeats 4000000 in
theorem ref12_Power (vb : Value) (lb' b k : Nat) (hb9 : b < 2 ^ 140) (hk : k ≤ 3) (hlb : lb' ≤ 100000) (w0 : World) (hb : BigAt w0 vb lb' b) : GivesB Tryz.prog 45 #[vb, .int .i64 k] (b ^ k) w0 := by
  have hst := St.start [] w0
  have hs := fun w => ref01_Small 1 (by decide) w
  have hmul := Lib.hid (fun (i : Nat) (hi : i < k) => (show ∀ v w (h : BigAt w v (dl (b ^ i)) (b ^ i)) (kp : Keeps [] w0 w), GivesB Tryz.prog 36 #[v, vb] (b ^ (i + 1)) w from fun v w h kp => by
    have hp : b ^ i ≤ (2 ^ 140) ^ i := Nat.pow_le_pow_left (Nat.le_of_lt hb9) i
    have key : ∀ t, 140 * i < 32 * t → (2 ^ 140) ^ i < 2 ^ (32 * t) := fun t ht => by rw [← Nat.pow_mul]; exact Nat.pow_lt_pow_right (by omega) ht
    have := ref01_Mul v vb _ _ _ _ w h (hb.keep kp) (Nat.le_trans (dl_pow _ 20 (Nat.lt_of_le_of_lt hp (key 20 (by omega)))) (by omega)) hlb
    rwa [← Nat.pow_succ] at this))
  clear hb9 hb
  go_enter Tryz.func45, Tryz.ntmps45
  go_wp2_with ((first | (refine wl_callB (o := ⟨some 7, _, _, _, _, _⟩) gf48 hst (fun w hst => hs w) rfl rfl rfl rfl rfl ?_; clear hst; intro v7 Lg7 w hb7 hst; (try simp only [List.cons_append, List.nil_append, List.append_nil, List.append_assoc] at hst); (try simp only [pz, pn, sz, sc]))); try simp only [pz, pn, sz, sc])
  go_loopw [6, 5] (fun vi vo wr => ∃ (i : Nat) (Lo : List (Nat × Obj)), i ≤ k ∧ vi = .int .i64 i ∧ BigIn w0.heap.size Lo vo (b ^ i) ∧ St w0 [] Lo wr) (fun vi _ _ => k - (intOf vi).toNat)
  case atStart => exact ⟨0, _, by omega, rfl, by rw [Nat.pow_zero]; exact hb7, hst⟩
  case round =>
    clear hst
    obtain ⟨i, Lo, hi, rfl, hbo, hst⟩ := hrel
    by_cases hlt : i < k
    · have h1 : (i : Int) < (k : Int) := by omega
      have hm := hmul.out i hlt
      go_wp2_with ((first | (refine wl_callB (o := ⟨some 15, _, _, _, _, _⟩) gf36 hst (fun w hst => hm _ w (hbo.at hst (fun x h => by simp [h])) hst.keeps) rfl rfl rfl rfl rfl ?_; clear hst; intro v15 Lg15 w hb15 hst; (try simp only [List.cons_append, List.nil_append, List.append_nil, List.append_assoc] at hst); (try simp only [pz, pn, sz, sc]))); try simp only [pz, pn, sz, sc])
      go_roundw
      case rel => exact ⟨i + 1, Lg15, by omega, by go_num, hb15, hst.sub (by repeat (first | exact List.Sublist.refl _ | refine List.Sublist.cons_cons _ ?_ | refine List.Sublist.trans ?_ (List.sublist_append_right _ _)))⟩
      case measure => simp [intOf]; omega
    · have hie : i = k := by omega
      subst hie
      have h1 : ¬ ((i : Int) < (i : Int)) := by omega
      go_wp2_with fail
      refine bp_t rfl rfl (by rfl) (PostB.of hst hbo (fun x h => by simp [h]))

/-- The root's digits from a place on. -/
def high (r j : Nat) : Nat := r / 2 ^ j * 2 ^ j
theorem high_step (r j : Nat) : (high r (j + 1) + 2 ^ j ≤ r → high r j = high r (j + 1) + 2 ^ j) ∧ (¬ high r (j + 1) + 2 ^ j ≤ r → high r j = high r (j + 1)) := by
  unfold high
  have hp : 0 < 2 ^ j := Nat.pow_pos (by omega)
  have e : r / 2 ^ (j + 1) = r / 2 ^ j / 2 := by rw [Nat.pow_succ, Nat.div_div_eq_div_mul]
  have h1 := Nat.div_add_mod r (2 ^ j)
  have h2 := Nat.mod_lt r hp
  rw [e, Nat.pow_succ]
  generalize r / 2 ^ j = x at *
  generalize r % 2 ^ j = y at *
  generalize 2 ^ j = p at *
  have h3 := Nat.div_add_mod x 2
  have h4 := Nat.mod_lt x (show 0 < 2 by omega)
  have e2 : x / 2 * (p * 2) = 2 * (x / 2) * p := by grind
  rw [e2]
  generalize x / 2 = z at *
  rcases (show x % 2 = 0 ∨ x % 2 = 1 by omega) with h | h
  · have hx : x = 2 * z := by omega
    subst hx
    have e3 : p * (2 * z) = 2 * z * p := Nat.mul_comm _ _
    exact ⟨fun h' => by omega, fun _ => rfl⟩
  · have hx : x = 2 * z + 1 := by omega
    subst hx
    have e3 : p * (2 * z + 1) = 2 * z * p + p := by grind
    have e4 : (2 * z + 1) * p = 2 * z * p + p := by grind
    exact ⟨fun _ => by omega, fun h' => by omega⟩
theorem high_le (r j : Nat) : high r j ≤ r := Nat.div_mul_le_self _ _

theorem pow_sq_C (j k t : Nat) (h : j + k < 32 * t) : 2 ^ j * 2 ^ k < 2 ^ (32 * t) := by
  rw [← Nat.pow_add]; exact Nat.pow_lt_pow_right (by omega) h

set_option maxHeartbeats 8000000 in
theorem ref12_Root (n : Nat) (hn : n < 2 ^ 256) : Gives Tryz.prog 25 #[W n, .int .i64 2] (.tuple #[W (isqrt n), W (n - isqrt n * isqrt n)]) := by
  intro w0
  have hst := St.start [] w0
  have hnM : n < M := small_M (by omega)
  have hr := isqrt_spec (n := n) (by rw [four_128]; exact hn)
  obtain ⟨r, hrr⟩ : ∃ r, isqrt n = r := ⟨_, rfl⟩
  rw [hrr] at hr ⊢
  have hbig := fun w => ref02_Big n hnM w
  have hdn : dl n ≤ 100000 := Nat.le_trans (dl_pow n 8 hn) (by omega)
  have hpw := Lib.hid (fun j (hj : j ≤ 131) w => ref02_Power j (by omega) w)
  have hle := Lib.hid (high_le r)
  have hsm : ∀ x, x ≤ 2 ^ 131 → dl x ≤ 5 := fun x hx => dl_pow x 5 (Nat.lt_of_le_of_lt hx (by decide))
  have hsm' := Lib.hid hsm
  have hr' := Lib.hid hr
  have hst0 := Lib.hid (high_step r)
  clear hsm hn hrr
  go_enter Tryz.func25, Tryz.ntmps25
  go_wp2_with ((first | (refine wl_callB (o := ⟨some 15, _, _, _, _, _⟩) gf29 hst (fun w hst => hbig w) rfl rfl rfl rfl rfl ?_; clear hst; intro v15 Lg15 w hb15 hst; (try simp only [List.cons_append, List.nil_append, List.append_nil, List.append_assoc] at hst); (try simp only [pz, pn, sz, sc])) | (refine kb 2 hst rfl rfl ?_; clear hst; intro b2 w hb2 hst) | (refine ka 4 hst tz24 rfl rfl ?_; clear hst; intro b4 w hb4 hst) | (refine ka 5 hst tz24 rfl rfl ?_; clear hst; intro b5 w hb5 hst) | (refine kl hst ta24 rfl ?_) | (refine klm hst ta24 rfl ?_) | (refine wl_slice0 (o := ⟨some 16, _, _, _, _, _⟩) hst (show SliceT _ 83 53 by unfold SliceT; kernel_rfl) (show ElemT Tryz.prog 53 1 (.int .u32 0) from ElemT.of (by kernel_rfl)) rfl rfl ?_; clear hst; intro b16 w hb16 hst) | (refine ka 10 hst tz24 rfl rfl ?_; clear hst; intro b10 w hb10 hst) | (refine kt hst ta24 rfl rfl ?_; clear hst; intro w hst) | (refine ktm hst ta24 rfl rfl ?_; clear hst; intro w hst) | (refine ka 12 hst tz24 rfl rfl ?_; clear hst; intro b12 w hb12 hst)); try simp only [pz, pn, sz, sc])
  have h131 : high r 131 = 0 := by unfold high; rw [Nat.div_eq_of_lt (by omega)]; first | done | exact Nat.zero_mul _
  clear hbig
  go_loopw [8, 7] (fun vi vs wr => ∃ (j : Nat) (Lx Ls Lall : List (Nat × Obj)), j ≤ 131 ∧ vi = .int .i64 ((j : Int) - 1) ∧ BigIn w0.heap.size Lx v15 n ∧ (∀ x ∈ Lx, x ∈ Lall) ∧ BigIn w0.heap.size Ls vs (high r j) ∧ (∀ x ∈ Ls, x ∈ Lall) ∧
    St w0 [] ((b5, .cells (wc 8 0) 24) :: (b4, .cells (wc 8 0) 24) :: Lall) wr) (fun vi _ _ => (intOf vi + 1).toNat)
  case atStart => exact ⟨131, Lg15, [], (b2, .cells (wc 8 n) 24) :: Lg15, by omega, rfl, hb15, fun x h => List.mem_cons_of_mem _ h, by rw [h131]; exact BigIn.zero _ _ _, fun x h => absurd h (by simp), hst.sub (by repeat (first | exact List.Sublist.refl _ | exact List.nil_sublist _ | refine List.Sublist.cons_cons _ ?_ | refine List.Sublist.cons _ ?_))⟩
  case round =>
    clear hst h131 hb15
    obtain ⟨j, Lx, Ls, Lall, hj, rfl, hbx, hLx, hbs, hLs, hst⟩ := hrel
    have hlej := hle.out j
    have hrb := hr'.out.2
    by_cases hlt : 0 < j
    · obtain ⟨i, rfl⟩ : ∃ i, j = i + 1 := ⟨j - 1, by omega⟩
      have h0 : (0 : Int) ≤ ((i + 1 : Nat) : Int) - 1 := by omega
      have hp : 2 ^ i ≤ 2 ^ 130 := Nat.pow_le_pow_right (by omega) (by omega)
      have hmore : high r (i + 1) + 2 ^ i < 2 ^ 131 := by
        have : (2 : Nat) ^ 131 = 2 ^ 130 + 2 ^ 130 := by decide
        have : (2 : Nat) ^ 128 ≤ 2 ^ 130 := by decide
        omega
      have c1 := fun w => hpw.out i (by omega) w
      rw [show (i : Int) = ((i + 1 : Nat) : Int) - 1 by omega] at c1
      have q1 : dl (high r (i + 1)) ≤ 100000 := Nat.le_trans (hsm'.out _ (by
        have : (2 : Nat) ^ 128 ≤ 2 ^ 131 := by decide
        omega)) (by omega)
      have q2 : dl (2 ^ i) ≤ 100000 := Nat.le_trans (hsm'.out _ (by
        have : (2 : Nat) ^ 130 ≤ 2 ^ 131 := by decide
        omega)) (by omega)
      have c2 := fun va vb w (ha : BigAt w va (dl (high r (i + 1))) (high r (i + 1))) (hb : BigAt w vb (dl (2 ^ i)) (2 ^ i)) => ref01_Add va vb _ _ _ _ w ha hb q1 q2
      clear q1 q2
      have hstep := hst0.out i
      generalize high r (i + 1) + 2 ^ i = q at *
      have c3 := fun v w (h : BigAt w v (dl q) q) => ref12_Power v (dl q) q 2 (Nat.lt_trans hmore (by decide)) (by omega) (Nat.le_trans (hsm'.out _ (by omega)) (by omega)) w h
      have e2 : q ^ 2 = q * q := by rw [Nat.pow_succ, Nat.pow_one]
      rw [e2, show ((2 : Nat) : Int) = 2 from rfl] at c3
      have hqq : dl (q * q) ≤ 9 := dl_pow _ 9 (by
        have h3 := Nat.mul_le_mul (Nat.le_of_lt hmore) (Nat.le_of_lt hmore)
        exact Nat.lt_of_le_of_lt h3 (pow_sq_C 131 131 9 (by omega)))
      have c4 := fun va vb w (ha : BigAt w va (dl (q * q)) (q * q)) (hb : BigAt w vb (dl n) n) => ref01_Cmp va vb _ _ (q * q) n w ha hb (by omega) hdn
      have hq := root_at (q := q) hr'.out.1
      obtain ⟨cc, hcc⟩ : ∃ cc, cmp (q * q) n = cc := ⟨_, rfl⟩
      rw [hcc] at c4
      have hsign : cc ≤ 0 ↔ q ≤ r := by
        have : 0 < cc ↔ n < q * q := by
          rw [← hcc]; unfold cmp
          by_cases h1 : q * q < n
          · rw [if_pos h1]; omega
          · by_cases h2 : n < q * q
            · rw [if_neg h1, if_pos h2]; omega
            · rw [if_neg h1, if_neg h2]; omega
        omega
      have hh := Lib.hid hstep
      clear e2 hqq hcc hstep hq hrb hlej hp
      by_cases hle2 : q ≤ r
      · have hc0 : cc ≤ 0 := hsign.2 hle2
        have hhi := Lib.hid (hh.out.1 hle2)
        clear hsign
        go_wp2_with ((first | (refine wl_callB (o := ⟨some 23, _, _, _, _, _⟩) gf44 hst (fun w hst => c1 w) rfl rfl rfl rfl rfl ?_; clear hst; intro v23 Lg23 w hb23 hst; (try simp only [List.cons_append, List.nil_append, List.append_nil, List.append_assoc] at hst); (try simp only [pz, pn, sz, sc])) | (refine wl_callB (o := ⟨some 24, _, _, _, _, _⟩) gf43 hst (fun w hst => c2 _ _ w (hbs.at hst (fun x h => by have := hLs x h; simp [this])) (hb23.at hst (fun x h => by simp [h]))) rfl rfl rfl rfl rfl ?_; clear hst; intro v24 Lg24 w hb24 hst; (try simp only [List.cons_append, List.nil_append, List.append_nil, List.append_assoc] at hst); (try simp only [pz, pn, sz, sc])) | (refine wl_callB (o := ⟨some 27, _, _, _, _, _⟩) gf45 hst (fun w hst => c3 _ w (hb24.at hst (fun x h => by simp [h]))) rfl rfl rfl rfl rfl ?_; clear hst; intro v27 Lg27 w hb27 hst; (try simp only [List.cons_append, List.nil_append, List.append_nil, List.append_assoc] at hst); (try simp only [pz, pn, sz, sc])) | (refine wl_callB (o := ⟨some 41, _, _, _, _, _⟩) gf45 hst (fun w hst => c3 _ w (hb24.at hst (fun x h => by simp [h]))) rfl rfl rfl rfl rfl ?_; clear hst; intro v41 Lg41 w hb41 hst; (try simp only [List.cons_append, List.nil_append, List.append_nil, List.append_assoc] at hst); (try simp only [pz, pn, sz, sc])) | (refine kg gf31 hst (fun w hst => c4 _ _ w (hb27.at hst (fun x h => by simp [h])) (hbx.at hst (fun x h => by have := hLx x h; simp [this]))) rfl rfl rfl rfl ?_; clear hst; intro w hst) | (refine kb 2 hst rfl rfl ?_; clear hst; intro b2 w hb2 hst) | (refine ka 4 hst tz24 rfl rfl ?_; clear hst; intro b4 w hb4 hst) | (refine ka 5 hst tz24 rfl rfl ?_; clear hst; intro b5 w hb5 hst) | (refine kl hst ta24 rfl ?_) | (refine klm hst ta24 rfl ?_) | (refine wl_slice0 (o := ⟨some 16, _, _, _, _, _⟩) hst (show SliceT _ 83 53 by unfold SliceT; kernel_rfl) (show ElemT Tryz.prog 53 1 (.int .u32 0) from ElemT.of (by kernel_rfl)) rfl rfl ?_; clear hst; intro b16 w hb16 hst) | (refine ka 10 hst tz24 rfl rfl ?_; clear hst; intro b10 w hb10 hst) | (refine kt hst ta24 rfl rfl ?_; clear hst; intro w hst) | (refine ktm hst ta24 rfl rfl ?_; clear hst; intro w hst) | (refine ka 12 hst tz24 rfl rfl ?_; clear hst; intro b12 w hb12 hst)); try simp only [pz, pn, sz, sc])
        go_roundw
        case rel => exact ⟨i, Lx, Lg24, Lall ++ (Lg23 ++ (Lg24 ++ Lg27)), by omega, by go_num, hbx, fun x h => by simp [hLx x h], by rw [hhi.out]; exact hb24, fun x h => by simp [h], hst⟩
        case measure => (simp [intOf]; try omega)
      · have hc0 : ¬ cc ≤ 0 := fun h => hle2 (hsign.1 h)
        have hhi := Lib.hid (hh.out.2 hle2)
        clear hsign
        go_wp2_with ((first | (refine wl_callB (o := ⟨some 23, _, _, _, _, _⟩) gf44 hst (fun w hst => c1 w) rfl rfl rfl rfl rfl ?_; clear hst; intro v23 Lg23 w hb23 hst; (try simp only [List.cons_append, List.nil_append, List.append_nil, List.append_assoc] at hst); (try simp only [pz, pn, sz, sc])) | (refine wl_callB (o := ⟨some 24, _, _, _, _, _⟩) gf43 hst (fun w hst => c2 _ _ w (hbs.at hst (fun x h => by have := hLs x h; simp [this])) (hb23.at hst (fun x h => by simp [h]))) rfl rfl rfl rfl rfl ?_; clear hst; intro v24 Lg24 w hb24 hst; (try simp only [List.cons_append, List.nil_append, List.append_nil, List.append_assoc] at hst); (try simp only [pz, pn, sz, sc])) | (refine wl_callB (o := ⟨some 27, _, _, _, _, _⟩) gf45 hst (fun w hst => c3 _ w (hb24.at hst (fun x h => by simp [h]))) rfl rfl rfl rfl rfl ?_; clear hst; intro v27 Lg27 w hb27 hst; (try simp only [List.cons_append, List.nil_append, List.append_nil, List.append_assoc] at hst); (try simp only [pz, pn, sz, sc])) | (refine wl_callB (o := ⟨some 41, _, _, _, _, _⟩) gf45 hst (fun w hst => c3 _ w (hb24.at hst (fun x h => by simp [h]))) rfl rfl rfl rfl rfl ?_; clear hst; intro v41 Lg41 w hb41 hst; (try simp only [List.cons_append, List.nil_append, List.append_nil, List.append_assoc] at hst); (try simp only [pz, pn, sz, sc])) | (refine kg gf31 hst (fun w hst => c4 _ _ w (hb27.at hst (fun x h => by simp [h])) (hbx.at hst (fun x h => by have := hLx x h; simp [this]))) rfl rfl rfl rfl ?_; clear hst; intro w hst) | (refine kb 2 hst rfl rfl ?_; clear hst; intro b2 w hb2 hst) | (refine ka 4 hst tz24 rfl rfl ?_; clear hst; intro b4 w hb4 hst) | (refine ka 5 hst tz24 rfl rfl ?_; clear hst; intro b5 w hb5 hst) | (refine kl hst ta24 rfl ?_) | (refine klm hst ta24 rfl ?_) | (refine wl_slice0 (o := ⟨some 16, _, _, _, _, _⟩) hst (show SliceT _ 83 53 by unfold SliceT; kernel_rfl) (show ElemT Tryz.prog 53 1 (.int .u32 0) from ElemT.of (by kernel_rfl)) rfl rfl ?_; clear hst; intro b16 w hb16 hst) | (refine ka 10 hst tz24 rfl rfl ?_; clear hst; intro b10 w hb10 hst) | (refine kt hst ta24 rfl rfl ?_; clear hst; intro w hst) | (refine ktm hst ta24 rfl rfl ?_; clear hst; intro w hst) | (refine ka 12 hst tz24 rfl rfl ?_; clear hst; intro b12 w hb12 hst)); try simp only [pz, pn, sz, sc])
        go_roundw
        case rel => exact ⟨i, Lx, Ls, Lall ++ (Lg23 ++ (Lg24 ++ Lg27)), by omega, by go_num, hbx, fun x h => by simp [hLx x h], by rw [hhi.out]; exact hbs, fun x h => by simp [hLs x h], hst⟩
        case measure => (simp [intOf]; try omega)
    · have hj0 : j = 0 := by omega
      subst hj0
      have h0 : ¬ (0 : Int) ≤ ((0 : Nat) : Int) - 1 := by omega
      have er : high r 0 = r := by unfold high; rw [Nat.pow_zero, Nat.div_one, Nat.mul_one]
      rw [er] at hbs
      have hrM : r < M := small_M (by omega)
      have w1 := fun v w (h : BigAt w v (dl r) r) => ref02_Wide v r w h (Nat.le_trans (hsm'.out _ (by
        have : (2 : Nat) ^ 128 ≤ 2 ^ 131 := by decide
        omega)) (by omega))
      rw [Nat.mod_eq_of_lt hrM] at w1
      have c3 := fun v w (h : BigAt w v (dl r) r) => ref12_Power v (dl r) r 2 (Nat.lt_trans hrb (by decide)) (by omega) (Nat.le_trans (hsm'.out _ (by
        have : (2 : Nat) ^ 128 ≤ 2 ^ 131 := by decide
        omega)) (by omega)) w h
      have e2 : r ^ 2 = r * r := by rw [Nat.pow_succ, Nat.pow_one]
      rw [e2, show ((2 : Nat) : Int) = 2 from rfl] at c3
      have hrn := hr'.out.1.1
      have c4 := fun va vb w (ha : BigAt w va (dl n) n) (hb : BigAt w vb (dl (r * r)) (r * r)) => ref01_Sub va vb _ _ n (r * r) w ha hb hdn hrn
      have w2 := fun v w (h : BigAt w v (dl (n - r * r)) (n - r * r)) => ref02_Wide v (n - r * r) w h (Nat.le_trans (dl_le.2 (Nat.lt_of_le_of_lt (Nat.sub_le _ _) (dl_lt n))) hdn)
      rw [Nat.mod_eq_of_lt (show n - r * r < M by omega)] at w2
      clear e2 hrn hrb hlej er hle hpw hst0 hsm' hr'
      generalize hrem : n - r * r = rm at *
      go_wp2_with ((first | (refine kg gf34 hst (fun w hst => w1 _ w (hbs.at hst (fun x h => by have := hLs x h; simp [this]))) rfl rfl rfl rfl ?_; clear hst; intro w hst) | (refine wl_callB (o := ⟨some 27, _, _, _, _, _⟩) gf45 hst (fun w hst => c3 _ w (hbs.at hst (fun x h => by have := hLs x h; simp [this]))) rfl rfl rfl rfl rfl ?_; clear hst; intro v27 Lg27 w hb27 hst; (try simp only [List.cons_append, List.nil_append, List.append_nil, List.append_assoc] at hst); (try simp only [pz, pn, sz, sc])) | (refine wl_callB (o := ⟨some 41, _, _, _, _, _⟩) gf45 hst (fun w hst => c3 _ w (hbs.at hst (fun x h => by have := hLs x h; simp [this]))) rfl rfl rfl rfl rfl ?_; clear hst; intro v41 Lg41 w hb41 hst; (try simp only [List.cons_append, List.nil_append, List.append_nil, List.append_assoc] at hst); (try simp only [pz, pn, sz, sc])) | (refine wl_callB (o := ⟨some 42, _, _, _, _, _⟩) gf35 hst (fun w hst => c4 _ _ w (hbx.at hst (fun x h => by have := hLx x h; simp [this])) (hb41.at hst (fun x h => by simp [h]))) rfl rfl rfl rfl rfl ?_; clear hst; intro v42 Lg42 w hb42 hst; (try simp only [List.cons_append, List.nil_append, List.append_nil, List.append_assoc] at hst); (try simp only [pz, pn, sz, sc])) | (refine kg gf34 hst (fun w hst => w2 _ w (hb42.at hst (fun x h => by simp [h]))) rfl rfl rfl rfl ?_; clear hst; intro w hst) | (refine kb 2 hst rfl rfl ?_; clear hst; intro b2 w hb2 hst) | (refine ka 4 hst tz24 rfl rfl ?_; clear hst; intro b4 w hb4 hst) | (refine ka 5 hst tz24 rfl rfl ?_; clear hst; intro b5 w hb5 hst) | (refine kl hst ta24 rfl ?_) | (refine klm hst ta24 rfl ?_) | (refine wl_slice0 (o := ⟨some 16, _, _, _, _, _⟩) hst (show SliceT _ 83 53 by unfold SliceT; kernel_rfl) (show ElemT Tryz.prog 53 1 (.int .u32 0) from ElemT.of (by kernel_rfl)) rfl rfl ?_; clear hst; intro b16 w hb16 hst) | (refine ka 10 hst tz24 rfl rfl ?_; clear hst; intro b10 w hb10 hst) | (refine kt hst ta24 rfl rfl ?_; clear hst; intro w hst) | (refine ktm hst ta24 rfl rfl ?_; clear hst; intro w hst) | (refine ka 12 hst tz24 rfl rfl ?_; clear hst; intro b12 w hb12 hst)); try simp only [pz, pn, sz, sc])
      refine wp_region_TV 4 [(b12, .cells (wc 8 rm) 24), (b10, .cells (wc 8 r) 24)] hst (by kernel_rfl) ?_; clear hst; intro w hst; (try dsimp only [List.length_cons, List.length_nil]); (try simp only [List.length_cons, List.length_nil, Nat.reduceAdd, Array.replicate_succ, Array.replicate_zero, List.push_toArray, List.nil_append, List.cons_append])
      refine rl 0 rfl ?_ (by first | exact ylA ta24 | exact ylM ta24); simp only [pz, pn, sz, sc]
      refine rl 1 rfl ?_ (by first | exact ylA ta24 | exact ylM ta24); simp only [pz, pn, sz, sc]
      refine r1 2 ?_; (first | (refine kt hst ta24 rfl rfl ?_; clear hst; intro w hst) | (refine ktm hst ta24 rfl rfl ?_; clear hst; intro w hst)); (try simp only [pz, pn, sz, sc]); refine re ?_
      refine r1 3 ?_; (first | (refine kt hst ta24 rfl rfl ?_; clear hst; intro w hst) | (refine ktm hst ta24 rfl rfl ?_; clear hst; intro w hst)); (try simp only [pz, pn, sz, sc]); refine re ?_
      refine rd_ ?_
      go_wp2_with ((first | (refine kb 2 hst rfl rfl ?_; clear hst; intro b2 w hb2 hst) | (refine ka 4 hst tz24 rfl rfl ?_; clear hst; intro b4 w hb4 hst) | (refine ka 5 hst tz24 rfl rfl ?_; clear hst; intro b5 w hb5 hst) | (refine kl hst ta24 rfl ?_) | (refine klm hst ta24 rfl ?_) | (refine wl_slice0 (o := ⟨some 16, _, _, _, _, _⟩) hst (show SliceT _ 83 53 by unfold SliceT; kernel_rfl) (show ElemT Tryz.prog 53 1 (.int .u32 0) from ElemT.of (by kernel_rfl)) rfl rfl ?_; clear hst; intro b16 w hb16 hst) | (refine ka 10 hst tz24 rfl rfl ?_; clear hst; intro b10 w hb10 hst) | (refine kt hst ta24 rfl rfl ?_; clear hst; intro w hst) | (refine ktm hst ta24 rfl rfl ?_; clear hst; intro w hst) | (refine ka 12 hst tz24 rfl rfl ?_; clear hst; intro b12 w hb12 hst)); try simp only [pz, pn, sz, sc])
      refine bp_cc rfl rfl (la hst ta24) (la hst ta24) ⟨?_, hst.keeps⟩
      rw [hrem]; rfl

end Go.Proofs.YtmkeaedpfmblgaaGreat.Rd
