/- Whether two arrays of words are the same. -/
import Derived.Test.YtefpoconpeggpaaGreatDoorL02
import Derived.Test.YtefpoconpeggpaaGreatDoorRdS
import Derived.Lib.Hide
import Derived.Laws.AppendOwn
import Derived.Shelf.Spec.BitsCarry
import Derived.ChangeKeysEq
namespace Go.Proofs.YtefpoconpeggpaaGreatDoor.Rd
open Go Go.RowKit
set_option linter.unusedVariables false
set_option linter.unusedSimpArgs false
set_option maxRecDepth 100000

theorem add64 (x y c : Nat) (hx : x < B) (hy : y < B) (hc : c ≤ 1) (w : World) :
    (callFunc 160 #[.int .u64 x, .int .u64 y, .int .u64 c]).run Tryz.prog w = .ok (.value (.tuple #[.int .u64 ((x + y + c) % B : Nat), .int .u64 ((x + y + c) / B : Nat)])) w := by
  rw [run_callFunc_extern Tryz.func160 (by kernel_rfl) (by kernel_rfl) (by kernel_rfl) (e := add64Entry) (by kernel_rfl), run_add64 x y c (by omega) (by omega) (by omega) (by omega)]
  simp only [Result.andThen, B_val]
  congr 5 <;> omega

theorem limb_one (n : Nat) : Gives Tryz.prog 161 #[.int .u64 n] (.int .u64 ((if n = 0 then 0 else 1 : Nat) : Int)) := by
  intro w0
  by_cases h : n = 0
  · subst h
    go_enter Tryz.func161, Tryz.ntmps161
    go_wp2
    go_ret
    exact ⟨rfl, .refl _ _⟩
  · have h1 : ((n : Int) != 0) = true := by simpa using h
    go_enter Tryz.func161, Tryz.ntmps161
    go_wp2
    go_ret
    exact ⟨by simp [h], .refl _ _⟩

theorem limb_Add (x y c : Nat) (hx : x < B) (hy : y < B) (hc : c ≤ 1) :
    Gives Tryz.prog 133 #[.int .u64 x, .int .u64 y, .int .u64 c] (.tuple #[.int .u64 ((x + y + c) % B : Nat), .int .u64 ((x + y + c) / B : Nat)]) := by
  intro w0
  have e1 : (if c = 0 then 0 else 1) = c := by split <;> omega
  have hone := limb_one c
  rw [e1] at hone
  clear e1
  have hst := St.start [] w0
  go_enter Tryz.func133, Tryz.ntmps133
  go_wp2_with ((first | (refine kf gf161 hst (hone) rfl rfl rfl rfl ?_; clear hst; intro w hst) | (refine kx (add64 x y c hx hy hc _) rfl rfl rfl rfl ?_)); try simp only [pz, pn, sz, sc])
  go_ret2
  exact ⟨rfl, hst.keeps⟩

/-- Limb by limb: what comes of k limbs, and what is carried. -/
def limbs (f : Nat → Nat → Nat → Nat × Nat) (a b : Nat) : Nat → Nat × Nat
  | 0 => (0, 0)
  | k + 1 => ((limbs f a b k).1 + (f (lb a k) (lb b k) (limbs f a b k).2).1 * B ^ k, (f (lb a k) (lb b k) (limbs f a b k).2).2)

theorem limbs_lt {f : Nat → Nat → Nat → Nat × Nat} (hf : ∀ x y c, x < B → y < B → c ≤ 1 → (f x y c).1 < B ∧ (f x y c).2 ≤ 1) (a b : Nat) : ∀ k, (limbs f a b k).1 < B ^ k ∧ (limbs f a b k).2 ≤ 1
  | 0 => by simp [limbs]
  | k + 1 => by
    obtain ⟨h1, h2⟩ := limbs_lt hf a b k
    obtain ⟨h3, h4⟩ := hf (lb a k) (lb b k) _ (lb_lt _ _) (lb_lt _ _) h2
    refine ⟨?_, h4⟩
    simp only [limbs]
    have := Nat.mul_le_mul_right (B ^ k) (Nat.le_sub_one_of_lt h3)
    rw [Nat.sub_mul, Nat.one_mul] at this
    rw [Nat.pow_succ, Nat.mul_comm (B ^ k) B]
    have h5 : B ^ k ≤ B * B ^ k := Nat.le_mul_of_pos_left _ B_pos
    omega

set_option maxHeartbeats 2000000 in
theorem wide_both (g : FuncId) (hg : GoF Tryz.prog g) (f : Nat → Nat → Nat → Nat × Nat) (hf : ∀ x y c, x < B → y < B → c ≤ 1 → (f x y c).1 < B ∧ (f x y c).2 ≤ 1)
    (hgf : ∀ x y c, x < B → y < B → c ≤ 1 → Gives Tryz.prog g #[.int .u64 (x : Nat), .int .u64 (y : Nat), .int .u64 (c : Nat)] (.tuple #[.int .u64 ((f x y c).1 : Nat), .int .u64 ((f x y c).2 : Nat)]))
    (a b : Nat) : Gives Tryz.prog 132 #[W a, W b, .func (.func g) #[] #[]] (.tuple #[W (limbs f a b 8).1, .bool (decide ((limbs f a b 8).2 ≠ 0))]) := by
  intro w0
  have hst := St.start [] w0
  go_enter Tryz.func132, Tryz.ntmps132
  go_wp2_with ((first | (refine kb 3 hst rfl rfl ?_; clear hst; intro b3 w hb3 hst) | (refine kb 4 hst rfl rfl ?_; clear hst; intro b4 w hb4 hst) | (refine ka 6 hst tz44 rfl rfl ?_; clear hst; intro b6 w hb6 hst) | (refine ka 8 hst tz44 rfl rfl ?_; clear hst; intro b8 w hb8 hst)); try simp only [pz, pn, sz, sc])
  go_loopw [9, 11] (fun c i wr => ∃ k : Nat, k ≤ 8 ∧ i = .int .i64 k ∧ c = .int .u64 ((limbs f a b k).2 : Nat) ∧
    St w0 [] [(b8, .cells (wc 8 (limbs f a b k).1) 44), (b6, .cells (wc 8 0) 44), (b4, .cells (wc 8 b) 44), (b3, .cells (wc 8 a) 44)] wr) (fun _ i _ => 8 - (intOf i).toNat)
  case atStart => exact ⟨0, by omega, rfl, rfl, hst⟩
  case round =>
    clear hst
    obtain ⟨k, hk, rfl, rfl, hst⟩ := hrel
    obtain ⟨hl1, hl2⟩ := limbs_lt hf a b k
    by_cases hlt : k < 8
    · have hi0 : (0 : Int) ≤ (k : Int) := by omega
      have hi8 : (k : Int) < 8 := by omega
      have hc := hgf (lb a k) (lb b k) _ (lb_lt _ _) (lb_lt _ _) hl2
      go_wp2_with fail
      refine wp_region_T 14  hst (by kernel_rfl) ?_; clear hst; intro w hst; (try simp only [List.length_cons, List.length_nil, Nat.reduceAdd, Array.replicate_succ, Array.replicate_zero, List.push_toArray, List.nil_append, List.cons_append])
      refine r0 0 ?_; simp only [pz, pn, sz, sc]
      refine r0 1 ?_; simp only [pz, pn, sz, sc]
      refine r0 2 ?_; simp only [pz, pn, sz, sc]
      refine r0 3 ?_; simp only [pz, pn, sz, sc]
      refine r0 5 ?_; simp only [pz, pn, sz, sc]
      refine r0 6 ?_; simp only [pz, pn, sz, sc]
      refine r0 8 ?_; simp only [pz, pn, sz, sc]
      refine rl 4 rfl ?_ (ylC tc22); simp only [pz, pn, sz, sc]
      refine rl 7 rfl ?_ (ylC tc22); simp only [pz, pn, sz, sc]
      refine r1 9 ?_; (refine kf hg hst (hc) rfl rfl rfl rfl ?_; clear hst; intro w hst); (try simp only [pz, pn, sz, sc]); refine re ?_
      refine r0 10 ?_; simp only [pz, pn, sz, sc]
      refine r0 11 ?_; simp only [pz, pn, sz, sc]
      refine r0 12 ?_; simp only [pz, pn, sz, sc]
      refine r0 13 ?_; simp only [pz, pn, sz, sc]
      refine r1 14 ?_; (refine ks hst tc22 rfl rfl ?_; clear hst; intro w hst); (try simp only [pz, pn, sz, sc]); refine re ?_
      refine r0 15 ?_; simp only [pz, pn, sz, sc]
      refine rd_ ?_
      rw [wc_set _ _ _ _ hl1 (hf _ _ _ (lb_lt _ _) (lb_lt _ _) hl2).1] at hst
      go_wp2_with fail
      go_roundw
      case rel => exact ⟨k + 1, by omega, by go_num, rfl, hst⟩
      case measure => simp [intOf]; omega
    · have : k = 8 := by omega
      subst this
      go_wp2_with ((first | (refine kl hst ta44 rfl ?_) | (refine kt hst ta44 rfl rfl ?_; clear hst; intro w hst)); try simp only [pz, pn, sz, sc])
      refine bp_ct rfl rfl (la hst ta44) (by rfl) ⟨?_, hst.keeps⟩
      rw [cast_bne0]; rfl

/-- What comes of k limbs added. -/
theorem limbs_add (a b : Nat) : ∀ k, (limbs (fun x y c => ((x + y + c) % B, (x + y + c) / B)) a b k).1 + (limbs (fun x y c => ((x + y + c) % B, (x + y + c) / B)) a b k).2 * B ^ k = a % B ^ k + b % B ^ k
  | 0 => by simp [limbs, Nat.mod_one]
  | k + 1 => by
    have ih := limbs_add a b k
    simp only [limbs]
    rw [lb_split a k, lb_split b k]
    generalize hL : limbs (fun x y c => ((x + y + c) % B, (x + y + c) / B)) a b k = r at ih ⊢
    have e := Nat.div_add_mod (lb a k + lb b k + r.2) B
    generalize (lb a k + lb b k + r.2) / B = q at e ⊢
    generalize (lb a k + lb b k + r.2) % B = m at e ⊢
    have : q * B ^ (k + 1) = B * q * B ^ k := by rw [Nat.pow_succ', ← Nat.mul_assoc, Nat.mul_comm q B]
    rw [this]
    have e2 : (B * q + m) * B ^ k = (lb a k + lb b k + r.2) * B ^ k := by rw [e]
    rw [Nat.add_mul, Nat.add_mul, Nat.add_mul] at e2
    omega

theorem add_lt (x y c : Nat) (hx : x < B) (hy : y < B) (hc : c ≤ 1) : (x + y + c) % B < B ∧ (x + y + c) / B ≤ 1 := by
  refine ⟨Nat.mod_lt _ B_pos, ?_⟩
  have : (x + y + c) / B < 2 := by rw [Nat.div_lt_iff_lt_mul B_pos]; omega
  omega

theorem limbs_add8 (a b : Nat) (ha : a < M) (hb : b < M) :
    (limbs (fun x y c => ((x + y + c) % B, (x + y + c) / B)) a b 8).1 = (a + b) % M ∧ decide ((limbs (fun x y c => ((x + y + c) % B, (x + y + c) / B)) a b 8).2 ≠ 0) = decide (M ≤ a + b) := by
  have h := limbs_add a b 8
  have hl := (limbs_lt (f := fun x y c => ((x + y + c) % B, (x + y + c) / B)) add_lt a b 8)
  rw [← M_eq] at h hl
  rw [Nat.mod_eq_of_lt ha, Nat.mod_eq_of_lt hb] at h
  obtain ⟨h1, h2⟩ := hl
  generalize limbs (fun x y c => ((x + y + c) % B, (x + y + c) / B)) a b 8 = r at *
  refine ⟨?_, ?_⟩
  · rw [← h, Nat.add_mul_mod_self_right, Nat.mod_eq_of_lt h1]
  · have : r.2 = 0 ∨ r.2 = 1 := by omega
    rcases this with e | e <;> rw [e] at h ⊢ <;> simp <;> omega

theorem wide_Add (a b : Nat) (ha : a < M) (hb : b < M) : Gives Tryz.prog 104 #[W a, W b] (.tuple #[W ((a + b) % M), .bool (decide (M ≤ a + b))]) := by
  intro w0
  have hst := St.start [] w0
  have hboth := wide_both 133 gf133 (fun x y c => ((x + y + c) % B, (x + y + c) / B)) add_lt limb_Add a b
  rw [(limbs_add8 a b ha hb).1, (limbs_add8 a b ha hb).2] at hboth
  go_enter Tryz.func104, Tryz.ntmps104
  go_wp2_with ((first | (refine kf gf132 hst (hboth) rfl rfl rfl rfl ?_; clear hst; intro w hst) | (refine kb 2 hst rfl rfl ?_; clear hst; intro b2 w hb2 hst) | (refine kb 3 hst rfl rfl ?_; clear hst; intro b3 w hb3 hst) | (refine ka 4 hst tz44 rfl rfl ?_; clear hst; intro b4 w hb4 hst) | (refine kl hst ta44 rfl ?_) | (refine kt hst ta44 rfl rfl ?_; clear hst; intro w hst)); try simp only [pz, pn, sz, sc])
  refine bp_ct rfl rfl (la hst ta44) (by rfl) ⟨?_, hst.keeps⟩
  rfl

end Go.Proofs.YtefpoconpeggpaaGreatDoor.Rd

namespace Go.Proofs.YtefpoconpeggpaaGreatDoor.Rd
open Go Go.RowKit
set_option linter.unusedVariables false
set_option linter.unusedSimpArgs false
set_option maxRecDepth 100000

set_option maxHeartbeats 1000000 in
theorem limb_Mul (x y : Nat) (hx : x < B) (hy : y < B) : Gives Tryz.prog 158 #[.int .u64 x, .int .u64 y] (.tuple #[.int .u64 (x * y / B : Nat), .int .u64 (x * y % B : Nat)]) := by
  intro w0
  have hst := St.start [] w0
  have hm : Gives Tryz.prog 171 #[.int .u64 x, .int .u64 y] (.tuple #[.int .u64 (x * y / B : Nat), .int .u64 (x * y % B : Nat)]) := Gives.of_same (Tryz.bits_Mul64 x y hx hy)
  go_enter Tryz.func158, Tryz.ntmps158
  go_wp2_with ((first | (refine kf gf171 hst (hm) rfl rfl rfl rfl ?_; clear hst; intro w hst)); try simp only [pz, pn, sz, sc])
  refine bp_tt rfl rfl (by rfl) (by rfl) ⟨?_, hst.keeps⟩
  rfl

set_option maxHeartbeats 1000000 in
theorem limb_trim (b o len cap k n : Nat) (E : TypeId) (fr : Nat × Nat) (hk : o + len ≤ k) (hcap : len ≤ cap) (hm : len ≤ 9223372036854775807) (w0 : World) (hb : w0.heap[b]? = some (.cells (wc k n) E fr)) :
    GivesAt Tryz.prog 105 #[.slice (some ⟨b, o, none⟩) len cap] (.slice (some ⟨b, o, none⟩) (tl n o len) (tl n o len)) w0 := by
  have hst := (St.start [] w0).add hb (by simp)
  clear hb
  go_enter Tryz.func105, Tryz.ntmps105
  go_wp2_with fail
  go_loopw [3] (fun j wr => ∃ i : Nat, i ≤ len ∧ j = .int .i64 i ∧ tl n o i = tl n o len ∧ St w0 [] [(b, .cells (wc k n) E fr)] wr) (fun j _ => (intOf j).toNat)
  case atStart => exact ⟨len, by omega, rfl, rfl, hst⟩
  case round =>
    clear hst
    obtain ⟨i, hi, rfl, ht, hst⟩ := hrel
    by_cases h0 : 0 < i
    · obtain ⟨j, rfl⟩ : ∃ j, i = j + 1 := ⟨i - 1, by omega⟩
      have e1 : ((j + 1 : Nat) : Int) = (j : Int) + 1 := by omega
      rw [e1]
      have h1 : (0 : Int) ≤ (j : Int) := by omega
      have h3 : (j : Int) < (len : Int) := by omega
      by_cases hz : lb n (o + j) = 0
      · have hz' : ((lb n (o + j) : Int) == 0) = true := by simp [hz]
        go_wp2_with ((first | (refine wl_guard (by rfl) ?_) | (refine kc hst tc22 rfl ?_)); try simp only [pz, pn, sz, sc])
        go_roundw
        case rel => exact ⟨j, by omega, by go_num, by rw [← ht]; simp [tl, hz], hst⟩
        case measure => simp [intOf]
      · have hz' : ((lb n (o + j) : Int) == 0) = false := by simp [hz]
        have e : tl n o len = j + 1 := by rw [← ht]; simp [tl, hz]
        go_wp2_with ((first | (refine wl_guard (by rfl) ?_) | (refine kc hst tc22 rfl ?_)); try simp only [pz, pn, sz, sc])
        refine bp_t rfl rfl (by rfl) ⟨?_, hst.keeps⟩
        rw [e]; rfl
    · have : i = 0 := by omega
      subst this
      have e : tl n o len = 0 := by rw [← ht]; rfl
      go_wp2_with fail
      refine bp_t rfl rfl (by rfl) ⟨?_, hst.keeps⟩
      rw [e]; rfl

theorem bits_Len64 (x : Nat) (hx : x < B) : Gives Tryz.prog 106 #[.int .u64 x] (.int .i64 (bl x : Nat)) := by
  have h := Gives.of_same fun w => Tryz.bits_Len64 (x : Int) w (by omega) (by rw [B_val] at hx; omega)
  rw [Int.toNat_natCast, lib_bitLen x hx] at h
  exact h

set_option maxHeartbeats 1000000 in
theorem limb_Len (b o len cap k n : Nat) (E : TypeId) (fr : Nat × Nat) (hk : o + len ≤ k) (hcap : len ≤ cap) (hm : len ≤ 100000) (w0 : World) (hb : w0.heap[b]? = some (.cells (wc k n) E fr)) :
    GivesAt Tryz.prog 73 #[.slice (some ⟨b, o, none⟩) len cap] (.int .i64 (bl (n / B ^ o % B ^ len) : Nat)) w0 := by
  have hst := (St.start [] w0).add hb (by simp)
  have htl := tl_le n o len
  have htrim := limb_trim b o len cap k n E fr hk hcap (by omega)
  have hlen := bits_Len64 (lb n (o + (tl n o len - 1))) (lb_lt _ _)
  have hbl := bl_tl n o len
  clear hb
  by_cases h0 : tl n o len = 0
  · have h0' : ((tl n o len : Int) == 0) = true := by simp [h0]
    have e : bl (n / B ^ o % B ^ len) = 0 := by rw [hbl, if_pos h0]
    rw [e]
    clear e hbl hlen htl
    go_enter Tryz.func73, Tryz.ntmps73
    go_wp2_with ((first | (refine kg gf105 hst (fun w hst => htrim w (hst.own _ _ (by simp))) rfl rfl rfl rfl ?_; clear hst; intro w hst)); try simp only [pz, pn, sz, sc])
    refine bp_t rfl rfl (by rfl) ⟨?_, hst.keeps⟩
    rfl
  · have h0' : ((tl n o len : Int) == 0) = false := by simp [h0]
    obtain ⟨t, ht⟩ : ∃ t, tl n o len = t + 1 := ⟨tl n o len - 1, by omega⟩
    have e : bl (n / B ^ o % B ^ len) = 64 * t + bl (lb n (o + t)) := by rw [hbl, if_neg h0, ht]; rfl
    have hb2 := bl_lt (lb n (o + t)) 64 (lb_lt _ _)
    rw [e]
    rw [ht] at htrim h0' hlen
    simp only [Nat.add_sub_cancel] at hlen
    have e1 : ((t + 1 : Nat) : Int) = (t : Int) + 1 := by omega
    rw [e1] at h0'
    have htl' : t < 100000 := by omega
    have hot : o + t < k := by omega
    clear hbl e h0 ht e1 htl
    have h1 : (0 : Int) ≤ (t : Int) := by omega
    have h3 : (t : Int) < (t : Int) + 1 := by omega
    go_enter Tryz.func73, Tryz.ntmps73
    go_wp2_with ((first | (refine kg gf105 hst (fun w hst => htrim w (hst.own _ _ (by simp))) rfl rfl rfl rfl ?_; clear hst; intro w hst) | (refine kf gf106 hst (hlen) rfl rfl rfl rfl ?_; clear hst; intro w hst) | (refine kc hst tc22 rfl ?_)); try simp only [pz, pn, sz, sc])
    refine bp_t rfl rfl (by rfl) ⟨?_, hst.keeps⟩
    go_num

set_option maxHeartbeats 1000000 in
theorem wide_Of (b o len cap k n : Nat) (E : TypeId) (fr : Nat × Nat) (hk : o + len ≤ k) (w0 : World) (hb : w0.heap[b]? = some (.cells (wc k n) E fr)) :
    GivesAt Tryz.prog 131 #[.slice (some ⟨b, o, none⟩) len cap] (W (n / B ^ o % B ^ (min len 8))) w0 := by
  have hst := (St.start [] w0).add hb (by simp)
  clear hb
  go_enter Tryz.func131, Tryz.ntmps131
  have hcl := cut_len k n o (min len 8) (by omega)
  have hcg := cut_get k n o (min len 8)
  have hc1 := cut_one k n o (min len 8)
  have hcw := wc_copy k n o (min len 8) (by omega) (by omega)
  generalize hcs : ((wc k n).toList.drop o).take (min len 8) = cs at hcl hcg hc1 hcw
  clear hcs
  have hcl' : Hid (cs.length = Nat.min len 8) := hcl
  have hcw' := Lib.hid hcw
  have hcg' := Lib.hid hcg
  clear hcl hcw hcg
  go_wp2_with ((first | (refine wl_copy (cs := cs) hst ts123 te22 rfl rfl (by rfl) (by rfl) (by repeat (first | exact List.Mem.head _ | refine List.Mem.tail _ ?_)) hcl'.out hcg'.out hc1 (by repeat (first | exact At.head _ | apply At.tail)) (by rw [hcl'.out, wc_size]; exact Nat.le_trans (by rw [Nat.zero_add]; exact Nat.min_le_right _ _) (Nat.le_refl 8)) hcw'.out (by first | exact Or.inl (by assumption) | (refine Or.inr ?_; simp)) ?_; clear hst; intro w hst; (try simp only [pz, pn, sz, sc])) | (refine ka 2 hst tz44 rfl rfl ?_; clear hst; intro b2 w hb2 hst) | (refine ka 3 hst tz44 rfl rfl ?_; clear hst; intro b3 w hb3 hst) | (refine kl hst ta44 rfl ?_) | (refine kt hst ta44 rfl rfl ?_; clear hst; intro w hst)); try simp only [pz, pn, sz, sc])
  refine bp_c rfl rfl (la hst ta44) ⟨?_, hst.keeps⟩
  rfl

end Go.Proofs.YtefpoconpeggpaaGreatDoor.Rd

namespace Go.Proofs.YtefpoconpeggpaaGreatDoor.Rd
open Go Go.RowKit
set_option linter.unusedVariables false
set_option linter.unusedSimpArgs false

/-- Lg is what the slice v of n elements, that has grown by appends since w0, owns: nothing, or one block whose first cells are xs. -/
def GRow (w0 : World) (Lg : List (Nat × Obj)) (e : TypeId) (sz : Nat) (v : Value) (n : Nat) (xs : List Value) : Prop :=
  xs.length = n * sz ∧ ((Lg = [] ∧ v = .slice none 0 0 ∧ n = 0) ∨
  ∃ g cap cur, Lg = [(g, .cells cur e (0, 0))] ∧ v = .slice (some ⟨g, 0, none⟩) n cap ∧ w0.heap.size ≤ g ∧ n ≤ cap ∧ cap ≤ maxLen ∧ cur.size = cap * sz ∧ cur.toList.take (n * sz) = xs)

theorem GRow.nil (w0 : World) (e : TypeId) (sz : Nat) : GRow w0 [] e sz (.slice none 0 0) 0 [] := ⟨by simp, .inl ⟨rfl, rfl, rfl⟩⟩

/-- L is pre, and behind it Lg. -/
inductive Tl (Lg : List (Nat × Obj)) : List (Nat × Obj) → List (Nat × Obj) → Prop
  | here : Tl Lg Lg []
  | there (x) (L pre) : Tl Lg L pre → Tl Lg (x :: L) (x :: pre)
theorem Tl.eq {Lg L pre : List (Nat × Obj)} (h : Tl Lg L pre) : L = pre ++ Lg := by
  induction h with
  | here => rfl
  | there x L pre h ih => rw [ih]; rfl

theorem At.snoc (pre : List (Nat × Obj)) (b : Nat) (o o' : Obj) : At b o o' (pre ++ [(b, o)]) (pre ++ [(b, o')]) := by
  induction pre with
  | nil => exact At.head _
  | cons x pre ih => exact At.tail _ _ _ ih

/-- The bytes of an element. -/
def BytesT (P : Program) (e : TypeId) (b : Nat) : Prop := (P.info? e).map (·.bytes) = some b

theorem add_lit' (g o j : Nat) : (⟨g, o, none⟩ : Addr).add j = ⟨g, o + j, none⟩ := by unfold Addr.add; split <;> simp_all

theorem builtin_append' (ats : Array TypeId) (ty : TypeId) (cs : Array Bool) (args : Array Value) : builtin .append ats ty cs args = (do pure (.value (← Builtin.append_ ats ty args))) := rfl

section
variable {P : Program} {ops : Array Oper} {rest : List Oper} {Q : Exit → Act → World → Prop} {a : Act} {w w0 : World} {S : List Nat} {L pre Lg : List (Nat × Obj)}

theorem run_app {t ty e : TypeId} {z v : Value} {sz n m c bytes : Nat} {xs news : List Value} {sb so : Nat} (hst : St w0 S (pre ++ Lg) w) (hg : GRow w0 Lg e sz v n xs) (hT : SliceT P t e) (he : ElemT P e sz z) (hz1 : z.cells.size = sz) (hsz : 0 < sz) (hby : BytesT P e bytes)
    (hm : news.length = m * sz) (hnews : ∀ j u, news[j]? = some u → w.cell? ⟨sb, so + j, none⟩ = some u) (h1 : ∀ u ∈ news, u.oneCell' = true)
    (hroom : (n + m) * bytes ≤ 140737488355328) (hroom' : n + m ≤ 1000000000000) :
    ∃ v' Lg' w', (Builtin.append_ #[t, t] ty #[v, .slice (some ⟨sb, so, none⟩) m c]).run P w = .ok v' w' ∧ GRow w0 Lg' e sz v' (n + m) (xs ++ news) ∧ St w0 S (pre ++ Lg') w' := by
  obtain ⟨i, hi, hisz, hz⟩ := he
  subst hisz
  have hby' : i.bytes = bytes := by simpa [BytesT, hi] using hby
  subst hby'
  obtain ⟨hlen, hg⟩ := hg
  have hlen2 : (xs ++ news).length = (n + m) * i.size := by rw [List.length_append, hlen, hm, Nat.add_mul]
  have hsrc : ∀ j u, news[j]? = some u → w.cell? ((⟨sb, so, none⟩ : Addr).add j) = some u := fun j u hv => by rw [add_lit']; exact hnews j u hv
  have hnd := hst.nodup
  rw [List.map_append] at hnd
  have hstpre : St w0 S pre w := hst.sub (List.sublist_append_left _ _)
  -- a new block takes what was and what comes
  have fresh : ∀ (cap : Nat) (cur : Array Value), n + m ≤ cap → cap ≤ maxLen → cur.size = cap * i.size → cur.toList.take ((n + m) * i.size) = xs ++ news →
      GRow w0 [(w.heap.size, .cells cur e (0, 0))] e i.size (.slice (some ⟨w.heap.size, 0, none⟩) (n + m) cap) (n + m) (xs ++ news) ∧ St w0 S (pre ++ [(w.heap.size, .cells cur e (0, 0))]) (w.drew.alloc (.cells cur e)) := by
    intro cap cur h1 h2 h3 h4
    refine ⟨⟨hlen2, .inr ⟨w.heap.size, cap, cur, rfl, rfl, hst.keeps.size, h1, h2, h3, h4⟩⟩, ?_⟩
    have h5 := (hstpre.keep (Keeps.drew w)).alloc (.cells cur e (0, 0))
    refine ⟨h5.keeps, fun b o hmem => ?_, ?_⟩
    · rcases List.mem_append.1 hmem with h | h
      · exact h5.own b o (List.mem_cons_of_mem _ h)
      · exact h5.own b o (by simp only [List.mem_singleton] at h; rw [h]; simp)
    · have := h5.nodup
      simp only [List.map_cons, List.nodup_cons] at this
      rw [List.map_append]
      refine List.nodup_append.2 ⟨hstpre.nodup, by simp, ?_⟩
      intro b hb b' hb' e
      simp only [List.map_cons, List.map_nil, List.mem_singleton] at hb'
      subst hb'
      exact this.1 (e ▸ hb)
  have hcapm : ∀ old, grownCap w (n + m) old e ≤ maxLen := fun old => grownCap_le_maxLen w (n + m) old e (by simp only [maxLen]; omega)
  rcases hg with ⟨rfl, rfl, rfl⟩ | ⟨g, cap, cur, rfl, rfl, hge, hle, hcap, hcs, htk⟩
  · have hx : xs = [] := List.eq_nil_of_length_eq_zero (by simpa using hlen)
    subst hx
    by_cases hm0 : m = 0
    · subst hm0
      have hn : news = [] := List.eq_nil_of_length_eq_zero (by simpa using hm)
      subst hn
      refine ⟨.slice none 0 0, [], w, ?_, GRow.nil _ _ _, hst⟩
      simp [Builtin.append_, run_underlying (show P.underlying t = some (.slice e) from hT), sizeOf, typeInfo, hi, Builtin.lenOf, Builtin.firstCells, loadCells, loadCellsFrom]
    · have hr := run_append_nil (P := P) w t ty e i z hT hi hz ⟨sb, so, none⟩ m c news hm hsrc (by omega) (by omega) (by have hb := hroom; simp only [Nat.zero_add] at hb; omega)
      have hge := grownCap_ge w m 0 e
      have h := fresh (grownCap w m 0 e) (news.toArray ++ Builtin.zeroCells z.cells (grownCap w m 0 e - m)) (by simpa using hge) (by simpa using hcapm 0) (by
          simp only [Array.size_append, List.size_toArray, size_zeroCells, hz1, hm, ← Nat.add_mul]; congr 1; omega) (by
          simp only [Array.toList_append, Nat.zero_add, List.nil_append]; rw [← hm]; exact List.take_left)
      simp only [Nat.zero_add, List.nil_append] at h ⊢
      exact ⟨_, _, _, hr, h.1, h.2⟩
  · have hheap : w.heap[g]? = some (.cells cur e (0, 0)) := hst.own _ _ (by simp)
    by_cases hfits : n + m ≤ cap
    · have hfit : n * i.size + news.length ≤ cur.size := by rw [hm, hcs, ← Nat.add_mul]; exact Nat.mul_le_mul_right _ hfits
      have hr := run_append_room (P := P) w t ty e i hT hi g n cap cur hheap ⟨sb, so, none⟩ m c news hm hsrc h1 hfits hfit
      have hat := At.snoc pre g (.cells cur e (0, 0)) (.cells (cur.toList.take (n * i.size) ++ news ++ cur.toList.drop (n * i.size + news.length)).toArray e (0, 0))
      refine ⟨_, _, _, hr, ⟨hlen2, .inr ⟨g, cap, _, rfl, rfl, hge, hfits, hcap, ?_, ?_⟩⟩, hst.put hat (.inl hge) (Keeps.setRow w g _ (fun _ => by simp)) (setRow_heap w g cur _ e _ hheap)⟩
      · simp only [List.size_toArray, List.length_append, List.length_take, List.length_drop, Array.length_toList]
        omega
      · rw [htk, ← hlen2]
        exact List.take_left
    · have holds : ∀ j u, xs[j]? = some u → w.cell? ((⟨g, 0, none⟩ : Addr).add j) = some u := fun j u hv => by
        rw [add_lit', Nat.zero_add, cell_of_row w g j cur e _ hheap]
        rw [← htk, List.getElem?_take] at hv
        split at hv
        · simpa using hv
        · cases hv
      have hr := run_append_grow (P := P) w t ty e i z hT hi hz ⟨g, 0, none⟩ n cap xs hlen holds ⟨sb, so, none⟩ m c news hm hsrc (by omega) (by omega) (growslice_fits (by omega) hroom)
      have hge2 := grownCap_ge w (n + m) cap e
      have h := fresh (grownCap w (n + m) cap e) (xs.toArray ++ news.toArray ++ Builtin.zeroCells z.cells (grownCap w (n + m) cap e - (n + m))) hge2 (hcapm cap) (by
          simp only [Array.size_append, List.size_toArray, size_zeroCells, hz1, hm, hlen, ← Nat.add_mul]; congr 1; omega) (by
          simp only [Array.toList_append, List.append_assoc]; rw [← List.append_assoc, ← hlen2]; exact List.take_left)
      exact ⟨_, _, _, hr, h.1, h.2⟩

/-- append of some cells that lie in a block of ours. -/
theorem wl_append {o : Oper} {s x : Operand} {t e E' : TypeId} {z v : Value} {sz n : Nat} {xs : List Value} {sb so m c bytes : Nat} {src : Array Value} {fr : Nat × Nat} (news : List Value) (hg : GRow w0 Lg e sz v n xs) (hst : St w0 S L w) (hT : SliceT P t e) (he : ElemT P e sz z) (hby : BytesT P e bytes)
    (hgd : o.guard = none) (ho : o.op = .call { callee := .builtin .append, args := #[s, x], argTypes := #[t, t] }) (hs : a.eval s = v) (hx : a.eval x = .slice (some ⟨sb, so, none⟩) m c)
    (htl : Tl Lg L pre) (hsm : (sb, .cells src E' fr) ∈ L) (hm : news.length = m * sz) (hnews : ∀ j u, news[j]? = some u → src[so + j]? = some u) (h1 : ∀ u ∈ news, u.oneCell' = true)
    (hz1 : z.cells.size = sz) (hsz : 0 < sz) (hroom : (n + m) * bytes ≤ 140737488355328) (hroom' : n + m ≤ 1000000000000)
    (h : ∀ v' Lg' w', GRow w0 Lg' e sz v' (n + m) (xs ++ news) → St w0 S (pre ++ Lg') w' → wpList P ops Q rest (a.put o.dst v') w') : wpList P ops Q (o :: rest) a w := by
  have hso := hst.own _ _ hsm
  have hL := htl.eq
  subst hL
  obtain ⟨v', Lg', w', hrun, hgr, hst'⟩ := run_app (ty := o.type) (c := c) hst hg hT he hz1 hsz hby hm (fun j u hv => by rw [cell_of_row w sb (so + j) src E' fr hso]; exact hnews j u hv) h1 hroom hroom'
  refine wpList_plain hgd fun K hK => ?_
  unfold Oper.wp
  have e : execOp a.eval o = builtin .append #[t, t] o.type ((#[s, x] : Array Operand).map fun | .const _ => true | _ => false) ((#[s, x] : Array Operand).map a.eval) := by
    unfold execOp
    rw [ho]
    rfl
  have e2 : (#[s, x] : Array Operand).map a.eval = #[v, .slice (some ⟨sb, so, none⟩) m c] := by simp [hs, hx]
  rw [e, e2, builtin_append', Sem.run_bind, hrun, Result.andThen_ok, Sem.run_pure, Oper.upon_value]
  exact hK _ _ (h _ _ _ hgr hst')

/-- The same of one value of one cell, out of a literal. -/
theorem wl_append1 {o : Oper} {s x : Operand} {t e E' : TypeId} {z v u : Value} {n : Nat} {xs : List Value} {sb bytes : Nat} {fr : Nat × Nat} (hg : GRow w0 Lg e 1 v n xs) (hst : St w0 S L w) (hT : SliceT P t e) (he : ElemT P e 1 z) (hby : BytesT P e bytes)
    (hgd : o.guard = none) (ho : o.op = .call { callee := .builtin .append, args := #[s, x], argTypes := #[t, t] }) (hs : a.eval s = v) (hx : a.eval x = .slice (some ⟨sb, 0, none⟩) 1 1)
    (htl : Tl Lg L ((sb, .cells #[u] E' fr) :: pre)) (h1 : u.oneCell' = true)
    (hz1 : z.cells.size = 1) (hroom : (n + 1) * bytes ≤ 140737488355328) (hroom' : n + 1 ≤ 1000000000000)
    (h : ∀ v' Lg' w', GRow w0 Lg' e 1 v' (n + 1) (xs ++ [u]) → St w0 S (pre ++ Lg') w' → wpList P ops Q rest (a.put o.dst v') w') : wpList P ops Q (o :: rest) a w := by
  have hL := htl.eq
  subst hL
  refine wl_append [u] hg hst hT he hby hgd ho hs hx htl (src := #[u]) (E' := E') (fr := fr) (by simp) (by simp) (fun j u' hv => ?_) (by simpa using h1) hz1 (by omega) hroom hroom' fun v' Lg' w' hgr hst' => h v' Lg' w' hgr ?_
  · cases j with
    | zero => simpa using hv
    | succ j => simp at hv
  · exact St.drop hst'

/-- A literal of one value of one cell. -/
theorem wl_slice1 {o : Oper} {T e : TypeId} {x : Operand} {v z : Value} (hst : St w0 S L w) (hu : SliceT P T e) (he : ElemT P e 1 z) (hg : o.guard = none) (ho : o.op = .buildSlice T 1 #[(0, x)]) (hx : a.eval x = v) (hv : v.cells = #[v])
    (h : ∀ b w', w0.heap.size ≤ b → St w0 S ((b, .cells #[v] e) :: L) w' → wpList P ops Q rest (a.put o.dst (.slice (some ⟨b, 0, none⟩) 1 1)) w') : wpList P ops Q (o :: rest) a w :=
  wl_buildSlice hst hu hg ho (by
    subst hx
    simpa using built_1 he hv) h
theorem wl_slice2 {o : Oper} {T e : TypeId} {x y : Operand} {v u z : Value} (hst : St w0 S L w) (hu : SliceT P T e) (he : ElemT P e 1 z) (hg : o.guard = none) (ho : o.op = .buildSlice T 2 #[(0, x), (1, y)]) (hx : a.eval x = v) (hy : a.eval y = u) (hv : v.cells = #[v]) (hu' : u.cells = #[u])
    (h : ∀ b w', w0.heap.size ≤ b → St w0 S ((b, .cells #[v, u] e) :: L) w' → wpList P ops Q rest (a.put o.dst (.slice (some ⟨b, 0, none⟩) 2 2)) w') : wpList P ops Q (o :: rest) a w :=
  wl_buildSlice hst hu hg ho (by
    subst hx
    subst hy
    simpa using built_2 he hv hu') h
end
end Go.Proofs.YtefpoconpeggpaaGreatDoor.Rd

namespace Go.Proofs.YtefpoconpeggpaaGreatDoor.Rd
open Go Go.RowKit
set_option linter.unusedVariables false
set_option linter.unusedSimpArgs false
set_option maxRecDepth 100000

/-- One limb of a difference, and what is borrowed. -/
def subl (x y c : Nat) : Nat × Nat := ((x + B - y - c) % B, if x < y + c then 1 else 0)
theorem sub_lt (x y c : Nat) (hx : x < B) (hy : y < B) (hc : c ≤ 1) : (subl x y c).1 < B ∧ (subl x y c).2 ≤ 1 :=
  ⟨Nat.mod_lt _ B_pos, by unfold subl; simp only; split <;> omega⟩
theorem subl_eq (x y c : Nat) (hx : x < B) (hy : y < B) (hc : c ≤ 1) : (subl x y c).1 + y + c = x + (subl x y c).2 * B := by
  unfold subl
  have := B_val
  simp only
  split <;> rename_i h
  · rw [Nat.mod_eq_of_lt (by omega)]; omega
  · rw [show x + B - y - c = x - y - c + B by omega, Nat.add_mod_right, Nat.mod_eq_of_lt (by omega)]; omega

theorem sub64 (x y c : Nat) (hc : c ≤ 1) (w : World) :
    (callFunc 167 #[.int .u64 x, .int .u64 y, .int .u64 c]).run Tryz.prog w = .ok (.value (.tuple #[.int .u64 ((subl x y c).1 : Nat), .int .u64 ((subl x y c).2 : Nat)])) w := by
  rw [run_callFunc_extern Tryz.func167 (by kernel_rfl) (by kernel_rfl) (by kernel_rfl) (e := sub64Entry) (by kernel_rfl), run_sub64 x y c hc]
  rfl

theorem limb_Sub (x y c : Nat) (hx : x < B) (hy : y < B) (hc : c ≤ 1) :
    Gives Tryz.prog 150 #[.int .u64 x, .int .u64 y, .int .u64 c] (.tuple #[.int .u64 ((subl x y c).1 : Nat), .int .u64 ((subl x y c).2 : Nat)]) := by
  intro w0
  have e1 : (if c = 0 then 0 else 1) = c := by split <;> omega
  have hone := limb_one c
  rw [e1] at hone
  clear e1
  have hst := St.start [] w0
  go_enter Tryz.func150, Tryz.ntmps150
  go_wp2_with ((first | (refine kf gf161 hst (hone) rfl rfl rfl rfl ?_; clear hst; intro w hst) | (refine kx (sub64 x y c hc _) rfl rfl rfl rfl ?_)); try simp only [pz, pn, sz, sc])
  go_ret2
  exact ⟨rfl, hst.keeps⟩

theorem limbs_sub (a b : Nat) : ∀ k, (limbs subl a b k).1 + b % B ^ k = a % B ^ k + (limbs subl a b k).2 * B ^ k
  | 0 => by simp [limbs, Nat.mod_one]
  | k + 1 => by
    have ih := limbs_sub a b k
    have hl := limbs_lt (f := subl) sub_lt a b k
    simp only [limbs]
    rw [lb_split a k, lb_split b k]
    generalize hL : limbs subl a b k = r at ih hl ⊢
    have e := subl_eq (lb a k) (lb b k) r.2 (lb_lt _ _) (lb_lt _ _) hl.2
    generalize subl (lb a k) (lb b k) r.2 = s at e ⊢
    have : s.2 * B ^ (k + 1) = s.2 * B * B ^ k := by rw [Nat.pow_succ', Nat.mul_assoc]
    rw [this]
    have e2 : (s.1 + lb b k + r.2) * B ^ k = (lb a k + s.2 * B) * B ^ k := by rw [e]
    rw [Nat.add_mul, Nat.add_mul, Nat.add_mul] at e2
    omega

theorem limbs_sub8 (a b : Nat) (ha : a < M) (hb : b < M) : (limbs subl a b 8).1 = (a + M - b) % M ∧ decide ((limbs subl a b 8).2 ≠ 0) = decide (a < b) := by
  have h := limbs_sub a b 8
  have hl := limbs_lt (f := subl) sub_lt a b 8
  rw [← M_eq] at h hl
  rw [Nat.mod_eq_of_lt ha, Nat.mod_eq_of_lt hb] at h
  obtain ⟨h1, h2⟩ := hl
  generalize limbs subl a b 8 = r at *
  have : r.2 = 0 ∨ r.2 = 1 := by omega
  rcases this with e | e <;> rw [e] at h ⊢
  · refine ⟨?_, by simp; omega⟩
    rw [show a + M - b = r.1 + M by omega, Nat.add_mod_right, Nat.mod_eq_of_lt h1]
  · refine ⟨?_, by simp; omega⟩
    rw [show a + M - b = r.1 by omega, Nat.mod_eq_of_lt h1]

theorem wide_Sub (a b : Nat) (ha : a < M) (hb : b < M) : Gives Tryz.prog 122 #[W a, W b] (.tuple #[W ((a + M - b) % M), .bool (decide (a < b))]) := by
  intro w0
  have hst := St.start [] w0
  have hboth := wide_both 150 gf150 subl sub_lt limb_Sub a b
  rw [(limbs_sub8 a b ha hb).1, (limbs_sub8 a b ha hb).2] at hboth
  go_enter Tryz.func122, Tryz.ntmps122
  go_wp2_with ((first | (refine kf gf132 hst (hboth) rfl rfl rfl rfl ?_; clear hst; intro w hst) | (refine kb 2 hst rfl rfl ?_; clear hst; intro b2 w hb2 hst) | (refine kb 3 hst rfl rfl ?_; clear hst; intro b3 w hb3 hst) | (refine ka 4 hst tz44 rfl rfl ?_; clear hst; intro b4 w hb4 hst) | (refine kl hst ta44 rfl ?_) | (refine kt hst ta44 rfl rfl ?_; clear hst; intro w hst)); try simp only [pz, pn, sz, sc])
  refine bp_ct rfl rfl (la hst ta44) (by rfl) ⟨?_, hst.keeps⟩
  rfl

/-- The cells of a word's number: those above, those below. -/
def wdc (m : Nat) : Array Value := #[.int .u64 (lb m 1 : Nat), .int .u64 (lb m 0 : Nat)]
/-- The value of a word. -/
def Wd (m : Nat) : Value := .agg (wdc m)
/-- As great as a word may be. -/
def M2 : Nat := B ^ 2
theorem Wd_cells (m : Nat) : (Wd m).cells = wdc m := rfl
theorem Wd_zero : Wd 0 = .agg #[.int .u64 0, .int .u64 0] := by kernel_rfl
theorem wdc_one (m : Nat) : (wdc m).all (·.oneCell') = true := by kernel_rfl
theorem wdc_1 (m : Nat) : (wdc m)[1]? = some (.int .u64 (lb m 0 : Nat)) := rfl
theorem wdc_0 (m : Nat) : (wdc m)[0]? = some (.int .u64 (lb m 1 : Nat)) := rfl
theorem wdc_inj {m n : Nat} (hm : m < M2) (hn : n < M2) (h1 : lb m 1 = lb n 1) (h0 : lb m 0 = lb n 0) : m = n := by
  have := lb_inj (k := 2) (n := m) (m := n) (fun i hi => by
    have : i = 0 ∨ i = 1 := by omega
    rcases this with e | e <;> rw [e] <;> assumption)
  rwa [Nat.mod_eq_of_lt (show m < B ^ 2 from hm), Nat.mod_eq_of_lt (show n < B ^ 2 from hn)] at this
theorem lb_join (n : Nat) : lb n 0 + lb n 1 * B = n % M2 := by
  have := lb_split n 1
  rw [Nat.pow_one] at this
  rw [show M2 = B ^ (1 + 1) from rfl, this, lb_zero]
theorem lb_low (n i : Nat) (hi : i < 2) : lb (n % M2) i = lb n i := by
  have := lb_part n 0 2 i hi
  rw [Nat.pow_zero, Nat.div_one, Nat.zero_add] at this
  exact this

theorem wide_Low (n : Nat) : Gives Tryz.prog 139 #[W n] (Wd (n % M2)) := by
  intro w0
  have hst := St.start [] w0
  have e1 : wdc (n % M2) = #[.int .u64 (lb n 1 : Nat), .int .u64 (lb n 0 : Nat)] := by unfold wdc; rw [lb_low n 1 (by omega), lb_low n 0 (by omega)]
  go_enter Tryz.func139, Tryz.ntmps139
  go_wp2_with ((first | (refine kb 1 hst rfl rfl ?_; clear hst; intro b1 w hb1 hst) | (refine ka 2 hst tz24 rfl rfl ?_; clear hst; intro b2 w hb2 hst) | (refine kc hst tc22 rfl ?_) | (refine kt hst ta24 rfl rfl ?_; clear hst; intro w hst)); try simp only [pz, pn, sz, sc])
  refine bp_c rfl rfl (la hst ta24) ⟨?_, hst.keeps⟩
  rw [← e1]; rfl

theorem wide_From (m : Nat) (hm : m < M2) : Gives Tryz.prog 170 #[Wd m] (W m) := by
  intro w0
  have hst := St.start [] w0
  have hof := fun b w h => wide_Of b 0 2 2 2 m 22 (0, 0) (by omega) w h
  have e1 := wc_2 (lb m 0) (lb m 1) (lb_lt _ _) (lb_lt _ _)
  rw [lb_join, Nat.mod_eq_of_lt hm] at e1
  rw [Nat.pow_zero, Nat.div_one, show min 2 8 = 2 from rfl, show m % B ^ 2 = m from Nat.mod_eq_of_lt hm] at hof
  have e1' := Lib.hid e1
  clear e1
  have g1 := wdc_1 m
  have g0 := wdc_0 m
  go_enter Tryz.func170, Tryz.ntmps170
  go_wp2_with ((first | (refine kg gf131 hst (fun w hst => hof _ w (by rw [← e1'.out]; exact hst.own _ _ (by simp))) rfl rfl rfl rfl ?_; clear hst; intro w hst) | (refine kb 1 hst rfl rfl ?_; clear hst; intro b1 w hb1 hst) | (refine ka 2 hst tz44 rfl rfl ?_; clear hst; intro b2 w hb2 hst) | (refine kc hst tc22 rfl ?_) | (refine wl_slice2 (o := ⟨some 7, _, _, _, _, _⟩) hst ts123 te22 rfl rfl (by (simp only [eval_lit, eval_k, eval_f, eval_g, List.getD_cons_succ, List.getD_cons_zero]) <;> rfl) (by (simp only [eval_lit, eval_k, eval_f, eval_g, List.getD_cons_succ, List.getD_cons_zero]) <;> rfl) (by rfl) (by rfl) ?_; clear hst; intro b7 w hb7 hst) | (refine kt hst ta44 rfl rfl ?_; clear hst; intro w hst)); try simp only [pz, pn, sz, sc])
  refine bp_c rfl rfl (la hst ta44) ⟨?_, hst.keeps⟩
  rfl

end Go.Proofs.YtefpoconpeggpaaGreatDoor.Rd

namespace Go.Proofs.YtefpoconpeggpaaGreatDoor.Rd
open Go Go.RowKit
set_option linter.unusedVariables false
set_option linter.unusedSimpArgs false
set_option maxRecDepth 100000

theorem run_eqItems_cells {P : Program} {e : TypeId} {k : IntKind} (he : CellT P e) (hu : P.underlying e = some (.int k)) (d : Nat) (xs ys : Array Value) (f g : Nat → Nat) (w : World) :
    ∀ is : List Nat, (∀ j ∈ is, xs[j]? = some (.int k (f j : Nat)) ∧ ys[j]? = some (.int k (g j : Nat))) → (Op.eqItems (d + 1) e 1 xs ys is).run P w = .ok (is.all fun j => f j == g j) w
  | [], _ => by simp [Op.eqItems]
  | j :: is, h => by
    obtain ⟨d', hu', hd, hs⟩ := he
    have hj := h j List.mem_cons_self
    have ih := run_eqItems_cells ⟨d', hu', hd, hs⟩ hu d xs ys f g w is (fun j hj => h j (List.mem_cons_of_mem _ hj))
    have p1 : (part e xs (j * 1)).run P w = .ok (.int k (f j : Nat)) w := by
      rw [Nat.mul_one]; simp [part, Sem.run_bind, run_isAgg_no d' hu' hd w, hj.1]
    have p2 : (part e ys (j * 1)).run P w = .ok (.int k (g j : Nat)) w := by
      rw [Nat.mul_one]; simp [part, Sem.run_bind, run_isAgg_no d' hu' hd w, hj.2]
    have p3 := run_equalIn_int w d e k k (f j : Nat) (g j : Nat) hu
    simp only [Op.eqItems, Sem.run_bind, p1, p2, p3, Result.andThen_ok, List.all_cons]
    have e1 : (((f j : Nat) : Int) == ((g j : Nat) : Int)) = (f j == g j) := by
      rw [Bool.eq_iff_iff]; simp only [beq_iff_eq]; omega
    rw [e1]
    cases hq : f j == g j
    · simp
    · simpa using ih

theorem all_lb (a b k : Nat) (ha : a < B ^ k) (hb : b < B ^ k) : ((List.range k).all fun j => lb a j == lb b j) = decide (a = b) := by
  rw [Bool.eq_iff_iff]
  simp only [List.all_eq_true, List.mem_range, beq_iff_eq, decide_eq_true_eq]
  constructor
  · intro h
    have := lb_inj h
    rwa [Nat.mod_eq_of_lt ha, Nat.mod_eq_of_lt hb] at this
  · intro h; subst h; intros; rfl

section
variable {P : Program} {ops : Array Oper} {rest : List Oper} {Q : Exit → Act → World → Prop} {a : Act} {w w0 : World} {S : List Nat} {L pre Lg : List (Nat × Obj)}

theorem run_eql_wide {T e : TypeId} (hT : ArrT P T 8 e) (he : CellT P e) (hu : P.underlying e = some (.int .u64)) (m n : Nat) (hm : m < M) (hn : n < M) (w : World) :
    (Op.equalIn 10000 T (W m) (W n)).run P w = .ok (decide (m = n)) w := by
  have hk : P.cellsOf e = 1 := by
    obtain ⟨d', hu', hd, hs⟩ := he
    unfold Program.cellsOf
    rw [hs]
    rfl
  have hinf : ∃ i, P.info? e = some i := by
    obtain ⟨d', hu', hd, hs⟩ := he
    cases hq : P.info? e with
    | none => simp [hq] at hs
    | some i => exact ⟨i, rfl⟩
  obtain ⟨i, hi⟩ := hinf
  have := run_equalIn_array w 9999 (wc 8 m) (wc 8 n) (show P.underlying T = some (.array 8 e) from hT) hi
  rw [hk] at this
  unfold W
  rw [this, run_eqItems_cells he hu 9998 (wc 8 m) (wc 8 n) (lb m) (lb n) w (List.range 8) (fun j hj => ⟨wc_get _ _ _ (List.mem_range.1 hj), wc_get _ _ _ (List.mem_range.1 hj)⟩)]
  rw [all_lb m n 8 hm hn]

/-- Whether two wides are the same. -/
theorem wl_eqlW {o : Oper} {T R e : TypeId} {x y : Operand} {m n : Nat} (hT : ArrT P T 8 e) (he : CellT P e) (hu : P.underlying e = some (.int .u64)) (hq : P.eqGuardType P.depth T = false)
    (hg : o.guard = none) (ho : o.op = .binOp .eql T x y R) (hx : a.eval x = W m) (hy : a.eval y = W n) (hm : m < M) (hn : n < M)
    (h : wpList P ops Q rest (a.put o.dst (.bool (decide (m = n)))) w) : wpList P ops Q (o :: rest) a w := by
  have h1 : (binOp .eql T (W m) (W n)).run P w = .ok (.bool (decide (m = n))) w := by
    have e1 := run_eql_struct (P := P) w T (wc 8 m) (wc 8 n)
    have e2 := run_eql_wide hT he hu m n hm hn w
    unfold W at e2 ⊢
    rw [e1, e2]
    rfl
  have h2 : (eqGuard .eql T x y (W m) (W n)).run P w = .ok () w := by
    unfold W; exact run_eqGuard_agg (P := P) w .eql T x y _ _ hq
  refine wpList_plain hg fun K hK => ?_
  unfold Oper.wp execOp
  simp only [ho, hx, hy, Sem.run_bind, h1, h2, Sem.run_pure, Result.andThen_ok]
  exact hK _ _ h
/-- The same in short; what is decided may stand among the facts. -/
theorem ke {o : Oper} {T R e : TypeId} {x y : Operand} {m n : Nat} {c : Bool} (hT : ArrT P T 8 e) (he : CellT P e) (ho : o.op = .binOp .eql T x y R) (h : wpList P ops Q rest (a.put o.dst (.bool c)) w)
    (hx : a.eval x = W m := by rfl) (hy : a.eval y = W n := by first | rfl | exact W_zero.symm) (hm : m < M := by assumption) (hn : n < M := by first | assumption | decide) (hc : decide (m = n) = c := by first | assumption | rfl)
    (hu : P.underlying e = some (.int .u64) := by kernel_rfl) (hq : P.eqGuardType P.depth T = false := by kernel_rfl) (hg : o.guard = none := by rfl) : wpList P ops Q (o :: rest) a w := by
  subst hc; exact wl_eqlW hT he hu hq hg ho hx hy hm hn h
end
end Go.Proofs.YtefpoconpeggpaaGreatDoor.Rd
