/- What the layers limb and wide answer, as numbers. -/
import Derived.Test.YtojjmcghcgidlaaDoorRdC
namespace Go.Proofs.YtojjmcghcgidlaaDoor.Rd
open Go Go.RowKit
set_option linter.unusedVariables false
set_option linter.unusedSimpArgs false
set_option maxRecDepth 100000

theorem add64 (x y c : Nat) (hx : x < B) (hy : y < B) (hc : c ≤ 1) (w : World) :
    (callFunc 73 #[.int .u64 x, .int .u64 y, .int .u64 c]).run Tryd.prog w = .ok (.value (.tuple #[.int .u64 ((x + y + c) % B : Nat), .int .u64 ((x + y + c) / B : Nat)])) w := by
  rw [run_callFunc_extern Tryd.func73 (by kernel_rfl) (by kernel_rfl) (by kernel_rfl) (e := add64Entry) (by kernel_rfl), run_add64 x y c (by omega) (by omega) (by omega) (by omega)]
  simp only [Result.andThen, B_val]
  congr 5 <;> omega

theorem limb_one (n : Nat) : Gives Tryd.prog 74 #[.int .u64 n] (.int .u64 ((if n = 0 then 0 else 1 : Nat) : Int)) := by
  intro w0
  by_cases h : n = 0
  · subst h
    go_enter Tryd.func74, Tryd.ntmps74
    go_wp2
    go_ret
    exact ⟨rfl, .refl _ _⟩
  · have h1 : ((n : Int) != 0) = true := by simpa using h
    go_enter Tryd.func74, Tryd.ntmps74
    go_wp2
    go_ret
    exact ⟨by simp [h], .refl _ _⟩

theorem limb_Add (x y c : Nat) (hx : x < B) (hy : y < B) (hc : c ≤ 1) :
    Gives Tryd.prog 56 #[.int .u64 x, .int .u64 y, .int .u64 c] (.tuple #[.int .u64 ((x + y + c) % B : Nat), .int .u64 ((x + y + c) / B : Nat)]) := by
  intro w0
  have e1 : (if c = 0 then 0 else 1) = c := by split <;> omega
  have hone := limb_one c
  rw [e1] at hone
  clear e1
  have hst := St.start [] w0
  go_enter Tryd.func56, Tryd.ntmps56
  go_wp2_with ((first | (refine kf gf74 hst (hone) rfl rfl rfl rfl ?_; clear hst; intro w hst) | (refine kx (add64 x y c hx hy hc _) rfl rfl rfl rfl ?_)); try simp only [pz, pn, sz, sc])
  go_ret2
  exact ⟨rfl, hst.keeps⟩

/-- Limb by limb: what comes of k limbs, and what is carried. -/
def limbs (f : Nat → Nat → Nat → Nat × Nat) (a b : Nat) : Nat → Nat × Nat
  | 0 => (0, 0)
  | k + 1 => ((limbs f a b k).1 + (f (lb a k) (lb b k) (limbs f a b k).2).1 * B ^ k, (f (lb a k) (lb b k) (limbs f a b k).2).2)

theorem limbs_lt {f : Nat → Nat → Nat → Nat × Nat} (hf : ∀ x y c, x < B → y < B → c ≤ 1 → (f x y c).1 < B ∧ (f x y c).2 ≤ 1) (a b : Nat) : ∀ k, (limbs f a b k).1 < B ^ k ∧ (limbs f a b k).2 ≤ 1
  | 0 => by simp [limbs]
  | k + 1 => by
    obtain ⟨h1, h2⟩ := limbs_lt hf a b k
    obtain ⟨h3, h4⟩ := hf (lb a k) (lb b k) _ (lb_lt _ _) (lb_lt _ _) h2
    refine ⟨?_, h4⟩
    simp only [limbs]
    have := Nat.mul_le_mul_right (B ^ k) (Nat.le_sub_one_of_lt h3)
    rw [Nat.sub_mul, Nat.one_mul] at this
    rw [Nat.pow_succ, Nat.mul_comm (B ^ k) B]
    have h5 : B ^ k ≤ B * B ^ k := Nat.le_mul_of_pos_left _ B_pos
    omega

set_option maxHeartbeats 2000000 in
theorem wide_both (g : FuncId) (hg : GoF Tryd.prog g) (f : Nat → Nat → Nat → Nat × Nat) (hf : ∀ x y c, x < B → y < B → c ≤ 1 → (f x y c).1 < B ∧ (f x y c).2 ≤ 1)
    (hgf : ∀ x y c, x < B → y < B → c ≤ 1 → Gives Tryd.prog g #[.int .u64 (x : Nat), .int .u64 (y : Nat), .int .u64 (c : Nat)] (.tuple #[.int .u64 ((f x y c).1 : Nat), .int .u64 ((f x y c).2 : Nat)]))
    (a b : Nat) : Gives Tryd.prog 55 #[W a, W b, .func (.func g) #[] #[]] (.tuple #[W (limbs f a b 8).1, .bool (decide ((limbs f a b 8).2 ≠ 0))]) := by
  intro w0
  have hst := St.start [] w0
  go_enter Tryd.func55, Tryd.ntmps55
  go_wp2_with ((first | (refine kb 3 hst rfl rfl ?_; clear hst; intro b3 w hb3 hst) | (refine kb 4 hst rfl rfl ?_; clear hst; intro b4 w hb4 hst) | (refine ka 6 hst tz24 rfl rfl ?_; clear hst; intro b6 w hb6 hst) | (refine ka 8 hst tz24 rfl rfl ?_; clear hst; intro b8 w hb8 hst) | (refine kc hst tc22 rfl ?_) | (refine ks hst tc22 rfl rfl ?_; clear hst; intro w hst) | (refine kl hst ta24 rfl ?_) | (refine kt hst ta24 rfl rfl ?_; clear hst; intro w hst)); try simp only [pz, pn, sz, sc])
  go_loopw [9, 11] (fun c i wr => ∃ k : Nat, k ≤ 8 ∧ i = .int .i64 k ∧ c = .int .u64 ((limbs f a b k).2 : Nat) ∧
    St w0 [] [(b8, .cells (wc 8 (limbs f a b k).1) 24), (b6, .cells (wc 8 0) 24), (b4, .cells (wc 8 b) 24), (b3, .cells (wc 8 a) 24)] wr) (fun _ i _ => 8 - (intOf i).toNat)
  case atStart => exact ⟨0, by omega, rfl, rfl, hst⟩
  case round =>
    clear hst
    obtain ⟨k, hk, rfl, rfl, hst⟩ := hrel
    obtain ⟨hl1, hl2⟩ := limbs_lt hf a b k
    by_cases hlt : k < 8
    · have hi0 : (0 : Int) ≤ (k : Int) := by omega
      have hi8 : (k : Int) < 8 := by omega
      have hc := hgf (lb a k) (lb b k) _ (lb_lt _ _) (lb_lt _ _) hl2
      go_wp2_with ((first | (refine kb 3 hst rfl rfl ?_; clear hst; intro b3 w hb3 hst) | (refine kb 4 hst rfl rfl ?_; clear hst; intro b4 w hb4 hst) | (refine ka 6 hst tz24 rfl rfl ?_; clear hst; intro b6 w hb6 hst) | (refine ka 8 hst tz24 rfl rfl ?_; clear hst; intro b8 w hb8 hst) | (refine kc hst tc22 rfl ?_) | (refine ks hst tc22 rfl rfl ?_; clear hst; intro w hst) | (refine kl hst ta24 rfl ?_) | (refine kt hst ta24 rfl rfl ?_; clear hst; intro w hst)); try simp only [pz, pn, sz, sc])
      refine wp_region_T 14  hst (by kernel_rfl) ?_; clear hst; intro w hst; (try dsimp only [List.length_cons, List.length_nil]); (try simp only [List.length_cons, List.length_nil, Nat.reduceAdd, Array.replicate_succ, Array.replicate_zero, List.push_toArray, List.nil_append, List.cons_append])
      refine r0 0 ?_; simp only [pz, pn, sz, sc]
      refine r0 1 ?_; simp only [pz, pn, sz, sc]
      refine r0 2 ?_; simp only [pz, pn, sz, sc]
      refine r0 3 ?_; simp only [pz, pn, sz, sc]
      refine r0 5 ?_; simp only [pz, pn, sz, sc]
      refine r0 6 ?_; simp only [pz, pn, sz, sc]
      refine r0 8 ?_; simp only [pz, pn, sz, sc]
      refine rl 4 rfl ?_ (ylC tc22); simp only [pz, pn, sz, sc]
      refine rl 7 rfl ?_ (ylC tc22); simp only [pz, pn, sz, sc]
      refine r1 9 ?_; (first | (refine kf hg hst (hc) rfl rfl rfl rfl ?_; clear hst; intro w hst) | (refine kp ?_)); (try simp only [pz, pn, sz, sc]); refine re ?_
      refine r0 10 ?_; simp only [pz, pn, sz, sc]
      refine r0 11 ?_; simp only [pz, pn, sz, sc]
      refine r0 12 ?_; simp only [pz, pn, sz, sc]
      refine r0 13 ?_; simp only [pz, pn, sz, sc]
      refine r1 14 ?_; (refine ks hst tc22 rfl rfl ?_; clear hst; intro w hst); (try simp only [pz, pn, sz, sc]); refine re ?_
      refine r0 15 ?_; simp only [pz, pn, sz, sc]
      refine rd_ ?_
      rw [wc_set _ _ _ _ hl1 (hf _ _ _ (lb_lt _ _) (lb_lt _ _) hl2).1] at hst
      go_wp2_with ((first | (refine kb 3 hst rfl rfl ?_; clear hst; intro b3 w hb3 hst) | (refine kb 4 hst rfl rfl ?_; clear hst; intro b4 w hb4 hst) | (refine ka 6 hst tz24 rfl rfl ?_; clear hst; intro b6 w hb6 hst) | (refine ka 8 hst tz24 rfl rfl ?_; clear hst; intro b8 w hb8 hst) | (refine kc hst tc22 rfl ?_) | (refine ks hst tc22 rfl rfl ?_; clear hst; intro w hst) | (refine kl hst ta24 rfl ?_) | (refine kt hst ta24 rfl rfl ?_; clear hst; intro w hst)); try simp only [pz, pn, sz, sc])
      go_roundw
      case rel => exact ⟨k + 1, by omega, by go_num, rfl, hst⟩
      case measure => simp [intOf]; omega
    · have : k = 8 := by omega
      subst this
      go_wp2_with ((first | (refine kb 3 hst rfl rfl ?_; clear hst; intro b3 w hb3 hst) | (refine kb 4 hst rfl rfl ?_; clear hst; intro b4 w hb4 hst) | (refine ka 6 hst tz24 rfl rfl ?_; clear hst; intro b6 w hb6 hst) | (refine ka 8 hst tz24 rfl rfl ?_; clear hst; intro b8 w hb8 hst) | (refine kc hst tc22 rfl ?_) | (refine ks hst tc22 rfl rfl ?_; clear hst; intro w hst) | (refine kl hst ta24 rfl ?_) | (refine kt hst ta24 rfl rfl ?_; clear hst; intro w hst)); try simp only [pz, pn, sz, sc])
      refine bp_ct rfl rfl (la hst ta24) (by rfl) ⟨?_, hst.keeps⟩
      rw [cast_bne0]; rfl

/-- What comes of k limbs added. -/
theorem limbs_add (a b : Nat) : ∀ k, (limbs (fun x y c => ((x + y + c) % B, (x + y + c) / B)) a b k).1 + (limbs (fun x y c => ((x + y + c) % B, (x + y + c) / B)) a b k).2 * B ^ k = a % B ^ k + b % B ^ k
  | 0 => by simp [limbs, Nat.mod_one]
  | k + 1 => by
    have ih := limbs_add a b k
    simp only [limbs]
    rw [lb_split a k, lb_split b k]
    generalize hL : limbs (fun x y c => ((x + y + c) % B, (x + y + c) / B)) a b k = r at ih ⊢
    have e := Nat.div_add_mod (lb a k + lb b k + r.2) B
    generalize (lb a k + lb b k + r.2) / B = q at e ⊢
    generalize (lb a k + lb b k + r.2) % B = m at e ⊢
    have : q * B ^ (k + 1) = B * q * B ^ k := by rw [Nat.pow_succ', ← Nat.mul_assoc, Nat.mul_comm q B]
    rw [this]
    have e2 : (B * q + m) * B ^ k = (lb a k + lb b k + r.2) * B ^ k := by rw [e]
    rw [Nat.add_mul, Nat.add_mul, Nat.add_mul] at e2
    omega

theorem add_lt (x y c : Nat) (hx : x < B) (hy : y < B) (hc : c ≤ 1) : (x + y + c) % B < B ∧ (x + y + c) / B ≤ 1 := by
  refine ⟨Nat.mod_lt _ B_pos, ?_⟩
  have : (x + y + c) / B < 2 := by rw [Nat.div_lt_iff_lt_mul B_pos]; omega
  omega

theorem limbs_add8 (a b : Nat) (ha : a < M) (hb : b < M) :
    (limbs (fun x y c => ((x + y + c) % B, (x + y + c) / B)) a b 8).1 = (a + b) % M ∧ decide ((limbs (fun x y c => ((x + y + c) % B, (x + y + c) / B)) a b 8).2 ≠ 0) = decide (M ≤ a + b) := by
  have h := limbs_add a b 8
  have hl := (limbs_lt (f := fun x y c => ((x + y + c) % B, (x + y + c) / B)) add_lt a b 8)
  rw [← M_eq] at h hl
  rw [Nat.mod_eq_of_lt ha, Nat.mod_eq_of_lt hb] at h
  obtain ⟨h1, h2⟩ := hl
  generalize limbs (fun x y c => ((x + y + c) % B, (x + y + c) / B)) a b 8 = r at *
  refine ⟨?_, ?_⟩
  · rw [← h, Nat.add_mul_mod_self_right, Nat.mod_eq_of_lt h1]
  · have : r.2 = 0 ∨ r.2 = 1 := by omega
    rcases this with e | e <;> rw [e] at h ⊢ <;> simp <;> omega

theorem wide_Add (a b : Nat) (ha : a < M) (hb : b < M) : Gives Tryd.prog 40 #[W a, W b] (.tuple #[W ((a + b) % M), .bool (decide (M ≤ a + b))]) := by
  intro w0
  have hst := St.start [] w0
  have hboth := wide_both 56 gf56 (fun x y c => ((x + y + c) % B, (x + y + c) / B)) add_lt limb_Add a b
  rw [(limbs_add8 a b ha hb).1, (limbs_add8 a b ha hb).2] at hboth
  go_enter Tryd.func40, Tryd.ntmps40
  go_wp2_with ((first | (refine kf gf55 hst (hboth) rfl rfl rfl rfl ?_; clear hst; intro w hst) | (refine kb 2 hst rfl rfl ?_; clear hst; intro b2 w hb2 hst) | (refine kb 3 hst rfl rfl ?_; clear hst; intro b3 w hb3 hst) | (refine ka 4 hst tz24 rfl rfl ?_; clear hst; intro b4 w hb4 hst) | (refine kl hst ta24 rfl ?_) | (refine kt hst ta24 rfl rfl ?_; clear hst; intro w hst)); try simp only [pz, pn, sz, sc])
  refine bp_ct rfl rfl (la hst ta24) (by rfl) ⟨?_, hst.keeps⟩
  rfl

end Go.Proofs.YtojjmcghcgidlaaDoor.Rd
