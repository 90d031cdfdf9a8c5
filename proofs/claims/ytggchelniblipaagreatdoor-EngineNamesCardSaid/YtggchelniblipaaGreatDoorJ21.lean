/- What radix2.May, srt.Norm, fix.Two, fix.Quotient answer. -/
import Derived.Test.YtggchelniblipaaGreatDoorJ20
namespace Go.Proofs.YtggchelniblipaaGreatDoor.Rd
open Go Go.RowKit
set_option linter.unusedVariables false
set_option linter.unusedSimpArgs false
set_option maxRecDepth 100000

theorem engine_Of_no (bs : Nat) (k : Int) (h : k < 1 ∨ 4 < k) : Gives Tryz.prog 6 #[.pointer (some ⟨bs, 0, none⟩), .int .i64 k] (.tuple #[.nilIface, .bool false]) := by
  intro w0
  have hst := St.start [] w0
  have his := engine_is_no k h
  clear h
  go_enter Tryz.func6, Tryz.ntmps6
  go_wp2_with ((first | (refine kf gf13 hst (his) rfl rfl rfl rfl ?_; clear hst; intro w hst) | (refine wl_guard (by rfl) ?_) | (refine kc hst tc31 rfl ?_)); try simp only [pz, pn, sz, sc])
  refine bp_tt rfl rfl (by rfl) (by rfl) ⟨?_, hst.keeps⟩
  rfl

theorem engine_ask_no (bs : Nat) (k : Int) (h : k < 1 ∨ 4 < k) (f : Value) : Gives Tryz.prog 15 #[.pointer (some ⟨bs, 0, none⟩), .int .i64 k, f] (.tuple #[W 0, W 0, .int .i64 7]) := by
  intro w0
  have hst := St.start [] w0
  have hof := engine_Of_no bs k h
  clear h
  go_enter Tryz.func15, Tryz.ntmps15
  go_wp2_with ((first | (refine kf gf6 hst (hof) rfl rfl rfl rfl ?_; clear hst; intro w hst) | (refine ka 6 hst tz24 rfl rfl ?_; clear hst; intro b6 w hb6 hst) | (refine ka 7 hst tz24 rfl rfl ?_; clear hst; intro b7 w hb7 hst) | (refine kt hst ta24 rfl rfl ?_; clear hst; intro w hst) | (refine ktm hst ta24 rfl rfl ?_; clear hst; intro w hst)); try simp only [pz, pn, sz, sc])
  refine bp_cct rfl rfl (la hst ta24) (la hst ta24) (by rfl) ⟨?_, hst.keeps⟩
  rw [W_zero]; rfl

theorem engine_Root_no (bs : Nat) (k : Int) (h : k < 1 ∨ 4 < k) (n : Nat) : Gives Tryz.prog 8 #[.pointer (some ⟨bs, 0, none⟩), .int .i64 k, W n] (.tuple #[W 0, W 0, .int .i64 7]) := by
  intro w0
  have hst := St.start [] w0
  have has := fun f => engine_ask_no bs k h f
  clear h
  go_enter Tryz.func8, Tryz.ntmps8
  go_wp2_with ((first | (refine kf gf15 hst (has _) rfl rfl rfl rfl ?_; clear hst; intro w hst) | (refine kb 5 hst rfl rfl ?_; clear hst; intro b5 w hb5 hst) | (refine ka 6 hst tz24 rfl rfl ?_; clear hst; intro b6 w hb6 hst) | (refine ka 7 hst tz24 rfl rfl ?_; clear hst; intro b7 w hb7 hst) | (refine kt hst ta24 rfl rfl ?_; clear hst; intro w hst) | (refine ktm hst ta24 rfl rfl ?_; clear hst; intro w hst)); try simp only [pz, pn, sz, sc])
  refine bp_cct rfl rfl (la hst ta24) (la hst ta24) (by rfl) ⟨?_, hst.keeps⟩
  rfl

theorem engine_Count (bs br : Nat) (d m : Int) (c1 c2 c3 c4 : Nat) (q : Nat → Int) (k : Nat) (h1 : 1 ≤ k) (h2 : k ≤ 4) (w0 : World) (hb : w0.heap[bs]? = some (.cells (engR d m br c1 c2 c3 c4 (q 0) (q 1) (q 2) (q 3) (q 4)) 63)) :
    GivesAt Tryz.prog 10 #[.pointer (some ⟨bs, 0, none⟩), .int .i64 k] (.int .i64 (q k)) w0 := by
  have hst := (St.start [] w0).add hb (by simp)
  have his := engine_is_yes k (by omega) (by omega)
  have hld := fun w (h : w.heap[bs]? = some (.cells (engR d m br c1 c2 c3 c4 (q 0) (q 1) (q 2) (q 3) (q 4)) 63)) => int64_Load bs (9 + k) (q k) _ 63 (0, 0) (engR_cnt d m br c1 c2 c3 c4 q k h2) w h
  have i1 : (0 : Int) ≤ (k : Int) := by omega
  have i2 : (k : Int) < 5 := by omega
  clear hb h1 h2
  generalize engR d m br c1 c2 c3 c4 (q 0) (q 1) (q 2) (q 3) (q 4) = cs at *
  generalize q k = x at *
  go_enter Tryz.func10, Tryz.ntmps10
  go_wp2_with ((first | (refine kf gf13 hst (his) rfl rfl rfl rfl ?_; clear hst; intro w hst) | (refine kg gf18 hst (fun w hst => hld w (hst.own _ _ (by repeat (first | exact List.Mem.head _ | refine List.Mem.tail _ ?_)))) rfl rfl rfl rfl ?_; clear hst; intro w hst) | (refine wl_guard (by rfl) ?_)); try simp only [pz, pn, sz, sc])
  refine bp_t rfl rfl (by rfl) ⟨?_, hst.keeps⟩
  rfl

end Go.Proofs.YtggchelniblipaaGreatDoor.Rd

namespace Go.Proofs.YtggchelniblipaaGreatDoor.Rd
open Go Go.RowKit
set_option linter.unusedVariables false
set_option linter.unusedSimpArgs false
set_option maxRecDepth 100000

/-- Why two can't be divided. -/
def mayE (n d : Nat) : Nat := if d = 0 then 5 else if 2 ^ 120 ≤ d ∨ d * 2 ^ 128 ≤ n then 4 else 0
theorem shl128_M {d : Nat} (h : d < 2 ^ 120) : d * 2 ^ 128 < M := small_M (by omega)

set_option maxHeartbeats 2000000 in
theorem radix2_May (n d : Nat) (hn : n < M) (hd : d < M) : Gives Tryz.prog 84 #[W n, W d] (.int .i64 (mayE n d : Nat)) := by
  intro w0
  have hst := St.start [] w0
  have hlen := wide_Len d hd
  unfold mayE
  by_cases h0 : d = 0
  · subst h0
    rw [if_pos rfl]
    have hdd : decide (0 = 0) = true := rfl
    go_enter Tryz.func84, Tryz.ntmps84
    go_wp2_with ((first | (refine wl_guard (by rfl) ?_) | (refine kb 2 hst rfl rfl ?_; clear hst; intro b2 w hb2 hst) | (refine kb 3 hst rfl rfl ?_; clear hst; intro b3 w hb3 hst) | (refine kl hst ta24 rfl ?_) | (refine klm hst ta24 rfl ?_) | (refine ke tr24 tc22 rfl ?_)); try simp only [pz, pn, sz, sc])
    refine bp_t rfl rfl (by rfl) ⟨?_, hst.keeps⟩
    rfl
  · rw [if_neg h0]
    have hdd : decide (d = 0) = false := by simpa using h0
    by_cases h1 : 2 ^ 120 ≤ d
    · rw [if_pos (.inl h1)]
      have hbl : (120 : Int) < (bl d : Int) := by
        rcases Nat.lt_or_ge 120 (bl d) with h' | h'
        · omega
        · have := bl_le.1 h'; omega
      clear h0 h1
      generalize bl d = k at *
      have Q1 : decide ((120 : Int) < (k : Int)) = true := decide_eq_true hbl
      go_enter Tryz.func84, Tryz.ntmps84
      go_wp2_with ((first | (refine wl_guard (by rfl) ?_) | (refine kb 2 hst rfl rfl ?_; clear hst; intro b2 w hb2 hst) | (refine kb 3 hst rfl rfl ?_; clear hst; intro b3 w hb3 hst) | (refine kl hst ta24 rfl ?_) | (refine klm hst ta24 rfl ?_) | (refine ke tr24 tc22 rfl ?_)); try simp only [pz, pn, sz, sc])
      refine wp_region_T 11  hst (by kernel_rfl) ?_; clear hst; intro w hst; (try dsimp only [List.length_cons, List.length_nil]); (try simp only [List.length_cons, List.length_nil, Nat.reduceAdd, Array.replicate_succ, Array.replicate_zero, List.push_toArray, List.nil_append, List.cons_append])
      refine rl 0 rfl ?_ (by first | exact ylA ta24 | exact ylM ta24); simp only [pz, pn, sz, sc, Q1]
      refine r1 1 ?_; (first | (refine kf gf92 hst (hlen) rfl rfl rfl rfl ?_; clear hst; intro w hst) | (refine kp ?_)); (try simp only [pz, pn, sz, sc, Q1]); refine re ?_
      refine r0 2 ?_; simp only [pz, pn, sz, sc, Q1]
      refine r0 3 ?_; simp only [pz, pn, sz, sc, Q1]
      refine rp 4 ?_; simp only [pz, pn, sz, sc, Q1]
      refine rp 5 ?_; simp only [pz, pn, sz, sc, Q1]
      refine rp 6 ?_; simp only [pz, pn, sz, sc, Q1]
      refine rp 7 ?_; simp only [pz, pn, sz, sc, Q1]
      refine rp 8 ?_; simp only [pz, pn, sz, sc, Q1]
      refine r0 9 ?_; simp only [pz, pn, sz, sc, Q1]
      refine r0 10 ?_; simp only [pz, pn, sz, sc, Q1]
      refine rd_ ?_
      go_wp2_with ((first | (refine wl_guard (by rfl) ?_) | (refine kb 2 hst rfl rfl ?_; clear hst; intro b2 w hb2 hst) | (refine kb 3 hst rfl rfl ?_; clear hst; intro b3 w hb3 hst) | (refine kl hst ta24 rfl ?_) | (refine klm hst ta24 rfl ?_) | (refine ke tr24 tc22 rfl ?_)); try simp only [pz, pn, sz, sc])
      refine bp_t rfl rfl (by rfl) ⟨?_, hst.keeps⟩
      rfl
    · have hd120 : d < 2 ^ 120 := by omega
      have hbl : ¬ (120 : Int) < (bl d : Int) := by have := bl_le.2 hd120; omega
      have hshl := wide_Shl d 128 hd
      rw [show clampN 128 = 128 from rfl, Nat.mod_eq_of_lt (shl128_M hd120)] at hshl
      have hcmp := wide_Cmp n (d * 2 ^ 128) hn (shl128_M hd120)
      by_cases h2 : d * 2 ^ 128 ≤ n
      · rw [if_pos (.inr h2)]
        have hc : (0 : Int) ≤ cmp n (d * 2 ^ 128) := by unfold cmp; rw [if_neg (by omega)]; split <;> decide
        clear h0 h1 h2 hd120
        generalize bl d = k at *
        generalize cmp n (d * 2 ^ 128) = c at *
        generalize d * 2 ^ 128 = x at *
        have Q1 : decide ((120 : Int) < (k : Int)) = false := decide_eq_false hbl
        go_enter Tryz.func84, Tryz.ntmps84
        go_wp2_with ((first | (refine wl_guard (by rfl) ?_) | (refine kb 2 hst rfl rfl ?_; clear hst; intro b2 w hb2 hst) | (refine kb 3 hst rfl rfl ?_; clear hst; intro b3 w hb3 hst) | (refine kl hst ta24 rfl ?_) | (refine klm hst ta24 rfl ?_) | (refine ke tr24 tc22 rfl ?_)); try simp only [pz, pn, sz, sc])
        refine wp_region_T 11  hst (by kernel_rfl) ?_; clear hst; intro w hst; (try dsimp only [List.length_cons, List.length_nil]); (try simp only [List.length_cons, List.length_nil, Nat.reduceAdd, Array.replicate_succ, Array.replicate_zero, List.push_toArray, List.nil_append, List.cons_append])
        refine rl 0 rfl ?_ (by first | exact ylA ta24 | exact ylM ta24); simp only [pz, pn, sz, sc, Q1]
        refine r1 1 ?_; (first | (refine kf gf92 hst (hlen) rfl rfl rfl rfl ?_; clear hst; intro w hst) | (refine kf gf94 hst (hshl) rfl rfl rfl rfl ?_; clear hst; intro w hst) | (refine kf gf93 hst (hcmp) rfl rfl rfl rfl ?_; clear hst; intro w hst) | (refine kp ?_)); (try simp only [pz, pn, sz, sc, Q1]); refine re ?_
        refine r0 2 ?_; simp only [pz, pn, sz, sc, Q1]
        refine r0 3 ?_; simp only [pz, pn, sz, sc, Q1]
        refine rl 4 rfl ?_ (by first | exact ylA ta24 | exact ylM ta24); simp only [pz, pn, sz, sc, Q1]
        refine rl 5 rfl ?_ (by first | exact ylA ta24 | exact ylM ta24); simp only [pz, pn, sz, sc, Q1]
        refine r1 6 ?_; (try refine wl_guard (by rfl) ?_); (first | (refine kf gf92 hst (hlen) rfl rfl rfl rfl ?_; clear hst; intro w hst) | (refine kf gf94 hst (hshl) rfl rfl rfl rfl ?_; clear hst; intro w hst) | (refine kf gf93 hst (hcmp) rfl rfl rfl rfl ?_; clear hst; intro w hst) | (refine kp ?_)); (try simp only [pz, pn, sz, sc, Q1]); refine re ?_
        refine r1 7 ?_; (try refine wl_guard (by rfl) ?_); (first | (refine kf gf92 hst (hlen) rfl rfl rfl rfl ?_; clear hst; intro w hst) | (refine kf gf94 hst (hshl) rfl rfl rfl rfl ?_; clear hst; intro w hst) | (refine kf gf93 hst (hcmp) rfl rfl rfl rfl ?_; clear hst; intro w hst) | (refine kp ?_)); (try simp only [pz, pn, sz, sc, Q1]); refine re ?_
        refine r0 8 ?_; simp only [pz, pn, sz, sc, Q1]
        refine r0 9 ?_; simp only [pz, pn, sz, sc, Q1]
        refine r0 10 ?_; simp only [pz, pn, sz, sc, Q1]
        refine rd_ ?_
        go_wp2_with ((first | (refine wl_guard (by rfl) ?_) | (refine kb 2 hst rfl rfl ?_; clear hst; intro b2 w hb2 hst) | (refine kb 3 hst rfl rfl ?_; clear hst; intro b3 w hb3 hst) | (refine kl hst ta24 rfl ?_) | (refine klm hst ta24 rfl ?_) | (refine ke tr24 tc22 rfl ?_)); try simp only [pz, pn, sz, sc])
        refine bp_t rfl rfl (by rfl) ⟨?_, hst.keeps⟩
        rfl
      · rw [if_neg (by omega)]
        have hc : ¬ (0 : Int) ≤ cmp n (d * 2 ^ 128) := by unfold cmp; rw [if_pos (by omega)]; decide
        clear h0 h1 h2 hd120
        generalize bl d = k at *
        generalize cmp n (d * 2 ^ 128) = c at *
        generalize d * 2 ^ 128 = x at *
        have Q1 : decide ((120 : Int) < (k : Int)) = false := decide_eq_false hbl
        go_enter Tryz.func84, Tryz.ntmps84
        go_wp2_with ((first | (refine wl_guard (by rfl) ?_) | (refine kb 2 hst rfl rfl ?_; clear hst; intro b2 w hb2 hst) | (refine kb 3 hst rfl rfl ?_; clear hst; intro b3 w hb3 hst) | (refine kl hst ta24 rfl ?_) | (refine klm hst ta24 rfl ?_) | (refine ke tr24 tc22 rfl ?_)); try simp only [pz, pn, sz, sc])
        refine wp_region_T 11  hst (by kernel_rfl) ?_; clear hst; intro w hst; (try dsimp only [List.length_cons, List.length_nil]); (try simp only [List.length_cons, List.length_nil, Nat.reduceAdd, Array.replicate_succ, Array.replicate_zero, List.push_toArray, List.nil_append, List.cons_append])
        refine rl 0 rfl ?_ (by first | exact ylA ta24 | exact ylM ta24); simp only [pz, pn, sz, sc, Q1]
        refine r1 1 ?_; (first | (refine kf gf92 hst (hlen) rfl rfl rfl rfl ?_; clear hst; intro w hst) | (refine kf gf94 hst (hshl) rfl rfl rfl rfl ?_; clear hst; intro w hst) | (refine kf gf93 hst (hcmp) rfl rfl rfl rfl ?_; clear hst; intro w hst) | (refine kp ?_)); (try simp only [pz, pn, sz, sc, Q1]); refine re ?_
        refine r0 2 ?_; simp only [pz, pn, sz, sc, Q1]
        refine r0 3 ?_; simp only [pz, pn, sz, sc, Q1]
        refine rl 4 rfl ?_ (by first | exact ylA ta24 | exact ylM ta24); simp only [pz, pn, sz, sc, Q1]
        refine rl 5 rfl ?_ (by first | exact ylA ta24 | exact ylM ta24); simp only [pz, pn, sz, sc, Q1]
        refine r1 6 ?_; (try refine wl_guard (by rfl) ?_); (first | (refine kf gf92 hst (hlen) rfl rfl rfl rfl ?_; clear hst; intro w hst) | (refine kf gf94 hst (hshl) rfl rfl rfl rfl ?_; clear hst; intro w hst) | (refine kf gf93 hst (hcmp) rfl rfl rfl rfl ?_; clear hst; intro w hst) | (refine kp ?_)); (try simp only [pz, pn, sz, sc, Q1]); refine re ?_
        refine r1 7 ?_; (try refine wl_guard (by rfl) ?_); (first | (refine kf gf92 hst (hlen) rfl rfl rfl rfl ?_; clear hst; intro w hst) | (refine kf gf94 hst (hshl) rfl rfl rfl rfl ?_; clear hst; intro w hst) | (refine kf gf93 hst (hcmp) rfl rfl rfl rfl ?_; clear hst; intro w hst) | (refine kp ?_)); (try simp only [pz, pn, sz, sc, Q1]); refine re ?_
        refine r0 8 ?_; simp only [pz, pn, sz, sc, Q1]
        refine r0 9 ?_; simp only [pz, pn, sz, sc, Q1]
        refine r0 10 ?_; simp only [pz, pn, sz, sc, Q1]
        refine rd_ ?_
        go_wp2_with ((first | (refine wl_guard (by rfl) ?_) | (refine kb 2 hst rfl rfl ?_; clear hst; intro b2 w hb2 hst) | (refine kb 3 hst rfl rfl ?_; clear hst; intro b3 w hb3 hst) | (refine kl hst ta24 rfl ?_) | (refine klm hst ta24 rfl ?_) | (refine ke tr24 tc22 rfl ?_)); try simp only [pz, pn, sz, sc])
        refine bp_t rfl rfl (by rfl) ⟨?_, hst.keeps⟩
        rfl

def dby (d : Nat) : Nat := 128 - bl d
theorem dnorm {d : Nat} (h0 : d ≠ 0) (h : d < 2 ^ 120) : 2 ^ 127 ≤ d * 2 ^ dby d ∧ d * 2 ^ dby d < 2 ^ 128 := by
  obtain ⟨h1, h2⟩ := bl_spec d
  have h2 := h2 h0
  have h3 := bl_pos h0
  have h4 : bl d ≤ 120 := bl_le.2 h
  have h5 : bl d + dby d = 128 := by unfold dby; omega
  have h6 : bl d - 1 + dby d = 127 := by omega
  generalize dby d = b at *
  generalize bl d = k at *
  have hb : 0 < 2 ^ b := Nat.pow_pos (by omega)
  constructor
  · have := Nat.mul_le_mul_right (2 ^ b) h2
    rw [← Nat.pow_add] at this
    exact Nat.le_trans (Nat.pow_le_pow_right (by omega) (by omega)) this
  · have := Nat.mul_lt_mul_of_pos_right h1 hb
    rw [← Nat.pow_add] at this
    exact Nat.lt_of_lt_of_le this (Nat.pow_le_pow_right (by omega) (by omega))

set_option maxHeartbeats 1000000 in
theorem srt_Norm (d : Nat) (h0 : d ≠ 0) (h : d < 2 ^ 120) (hd : d < M) : Gives Tryz.prog 128 #[W d] (.tuple #[W (d * 2 ^ dby d), .int .i64 (dby d : Nat), .bool true]) := by
  intro w0
  have hst := St.start [] w0
  have hlen := wide_Len d hd
  have hb0 := bl_pos h0
  have hb1 : bl d ≤ 120 := bl_le.2 h
  have hshl := wide_Shl d (dby d : Nat) hd
  rw [clampN_nat _ (by unfold dby; omega), Nat.mod_eq_of_lt (small_M (by have := (dnorm h0 h).2; omega))] at hshl
  have e : (dby d : Int) = 128 - (bl d : Int) := by unfold dby; omega
  rw [e] at hshl ⊢
  clear e
  generalize d * 2 ^ dby d = x at *
  generalize bl d = k at *
  have Q0 : ((k : Int) == 0) = false := by simp; omega
  have Q1 : ¬ (120 : Int) < (k : Int) := by omega
  clear h0 h
  go_enter Tryz.func128, Tryz.ntmps128
  go_wp2_with ((first | (refine kf gf92 hst (hlen) rfl rfl rfl rfl ?_; clear hst; intro w hst) | (refine kf gf94 hst (hshl) rfl rfl rfl rfl ?_; clear hst; intro w hst) | (refine kb 1 hst rfl rfl ?_; clear hst; intro b1 w hb1 hst) | (refine ka 2 hst tz24 rfl rfl ?_; clear hst; intro b2 w hb2 hst) | (refine kl hst ta24 rfl ?_) | (refine klm hst ta24 rfl ?_) | (refine kt hst ta24 rfl rfl ?_; clear hst; intro w hst) | (refine ktm hst ta24 rfl rfl ?_; clear hst; intro w hst)); try simp only [pz, pn, sz, sc])
  refine bp_ctt rfl rfl (la hst ta24) (by rfl) (by rfl) ⟨?_, hst.keeps⟩
  rfl

set_option maxHeartbeats 1000000 in
theorem fix_Two (a : Nat) (ha : a ≤ 2 * R) : Gives Tryz.prog 173 #[.int .i64 160, W a] (W (2 * R - a)) := by
  intro w0
  have hst := St.start [] w0
  have p1 := wide_Power 161
  rw [show pow2 161 = 2 * R by decide] at p1
  have h1 := fix_without (2 * R) a (small_M (by decide)) ha
  clear ha
  generalize 2 * R - a = z at *
  generalize 2 * R = x at *
  go_enter Tryz.func173, Tryz.ntmps173
  go_wp2_with ((first | (refine kb 3 hst rfl rfl ?_; clear hst; intro b3 w hb3 hst) | (refine ka 4 hst tz24 rfl rfl ?_; clear hst; intro b4 w hb4 hst) | (refine kl hst ta24 rfl ?_) | (refine klm hst ta24 rfl ?_) | (refine kt hst ta24 rfl rfl ?_; clear hst; intro w hst) | (refine ktm hst ta24 rfl rfl ?_; clear hst; intro w hst)); try simp only [pz, pn, sz, sc])
  refine wp_region_T 5  hst (by kernel_rfl) ?_; clear hst; intro w hst; (try dsimp only [List.length_cons, List.length_nil]); (try simp only [List.length_cons, List.length_nil, Nat.reduceAdd, Array.replicate_succ, Array.replicate_zero, List.push_toArray, List.nil_append, List.cons_append])
  refine r0 0 ?_; simp only [pz, pn, sz, sc]
  refine r0 1 ?_; simp only [pz, pn, sz, sc]
  refine rl 3 rfl ?_ (by first | exact ylA ta24 | exact ylM ta24); simp only [pz, pn, sz, sc]
  refine r1 2 ?_; (first | (refine kf gf97 hst (p1) rfl rfl rfl rfl ?_; clear hst; intro w hst) | (refine kf gf166 hst (h1) rfl rfl rfl rfl ?_; clear hst; intro w hst) | (refine kp ?_)); (try simp only [pz, pn, sz, sc]); refine re ?_
  refine r1 4 ?_; (first | (refine kf gf97 hst (p1) rfl rfl rfl rfl ?_; clear hst; intro w hst) | (refine kf gf166 hst (h1) rfl rfl rfl rfl ?_; clear hst; intro w hst) | (refine kp ?_)); (try simp only [pz, pn, sz, sc]); refine re ?_
  refine r1 5 ?_; (first | (refine kt hst ta24 rfl rfl ?_; clear hst; intro w hst) | (refine ktm hst ta24 rfl rfl ?_; clear hst; intro w hst)); (try simp only [pz, pn, sz, sc]); refine re ?_
  refine rd_ ?_
  go_wp2_with ((first | (refine kb 3 hst rfl rfl ?_; clear hst; intro b3 w hb3 hst) | (refine ka 4 hst tz24 rfl rfl ?_; clear hst; intro b4 w hb4 hst) | (refine kl hst ta24 rfl ?_) | (refine klm hst ta24 rfl ?_) | (refine kt hst ta24 rfl rfl ?_; clear hst; intro w hst) | (refine ktm hst ta24 rfl rfl ?_; clear hst; intro w hst)); try simp only [pz, pn, sz, sc])
  refine bp_c rfl rfl (la hst ta24) ⟨?_, hst.keeps⟩
  rfl

theorem fix_Quotient_1 (q d : Nat) (hq : q < M) (hd : d < M) (h : q * d < M) (b5 : Nat) (E5 : TypeId) (w0 : World) (h5 : w0.heap[b5]? = some (.cells (wc 8 d) E5)) :
    GivesAt Tryz.prog 162 #[W q, .pointer (some ⟨b5, 0, none⟩)] (W (q * d)) w0 := by
  have hst := (St.start [] w0).add h5 (by simp)
  have h1 := prod_Mul q d hq hd
  rw [Nat.mod_eq_of_lt h] at h1
  clear h h5
  generalize q * d = s at *
  go_enter Tryz.func162, Tryz.ntmps162
  go_wp2_with ((first | (refine kf gf142 hst (h1) rfl rfl rfl rfl ?_; clear hst; intro w hst) | (refine kb 2 hst rfl rfl ?_; clear hst; intro b2 w hb2 hst) | (refine ka 3 hst tz24 rfl rfl ?_; clear hst; intro b3 w hb3 hst) | (refine kl hst ta24 rfl ?_) | (refine klm hst ta24 rfl ?_) | (refine ka 4 hst tz24 rfl rfl ?_; clear hst; intro b4 w hb4 hst) | (refine kt hst ta24 rfl rfl ?_; clear hst; intro w hst) | (refine ktm hst ta24 rfl rfl ?_; clear hst; intro w hst)); try simp only [pz, pn, sz, sc])
  refine bp_c rfl rfl (la hst ta24) ⟨?_, hst.keeps⟩
  rfl

theorem quo_at {n d q : Nat} (h : 0 < d) : n < q * d ↔ n / d < q := by
  rw [Nat.div_lt_iff_lt_mul h]

theorem Owns.three {w : World} {b1 b2 b5 : Nat} {o1 o2 o5 : Obj} (hn : [b1, b5, b2].Nodup) (h1 : w.heap[b1]? = some o1) (h2 : w.heap[b2]? = some o2) (h5 : w.heap[b5]? = some o5) : Owns w [(b1, o1), (b2, o2), (b5, o5)] := by
  refine ⟨?_, fun b o hb => ?_⟩
  · simp only [List.map_cons, List.map_nil, List.nodup_cons, List.mem_cons, List.not_mem_nil, or_false, not_or, not_false_eq_true, List.nodup_nil, and_true] at hn ⊢
    omega
  · simp only [List.mem_cons, Prod.mk.injEq, List.not_mem_nil, or_false] at hb
    rcases hb with ⟨rfl, rfl⟩ | ⟨rfl, rfl⟩ | ⟨rfl, rfl⟩ <;> assumption

/-- The three blocks of a quotient's functions. -/
def quoL (b1 b2 b5 n d : Nat) (E1 E2 E5 : TypeId) : List (Nat × Obj) := [(b1, .cells #[.func (.func 162) #[] #[.pointer (some ⟨b5, 0, none⟩)]] E1), (b2, .cells (wc 8 n) E2), (b5, .cells (wc 8 d) E5)]

set_option maxHeartbeats 1000000 in
theorem fix_Quotient_2 (n d q : Nat) (hn : n < M) (hd : d < M) (hd0 : 0 < d) (hq : q < M) (h : q * d < M) (b1 b2 b5 : Nat) (E1 E2 E5 : TypeId) (w0 : World) (hL : Owns w0 (quoL b1 b2 b5 n d E1 E2 E5)) :
    GivesAt Tryz.prog 164 #[W q, .pointer (some ⟨b1, 0, none⟩), .pointer (some ⟨b2, 0, none⟩)] (.bool (decide (n / d < q))) w0 := by
  have hst := St.ofOwns [] hL
  unfold quoL at hst
  have hsq := fun w (h5 : w.heap[b5]? = some (.cells (wc 8 d) E5)) => fix_Quotient_1 q d hq hd h b5 E5 w h5
  have hc := wide_Cmp (q * d) n h hn
  obtain ⟨c, hc'⟩ : ∃ c, cmp (q * d) n = c := ⟨_, rfl⟩
  rw [hc'] at hc
  have hdc : decide (n / d < q) = decide (0 < c) := by
    rw [← hc', ← decide_eq_decide.2 (quo_at (n := n) (q := q) hd0)]
    unfold cmp
    by_cases h1 : q * d < n
    · rw [if_pos h1, decide_eq_false (by omega)]; rfl
    · by_cases h2 : n < q * d
      · rw [if_neg h1, if_pos h2, decide_eq_true h2]; rfl
      · rw [if_neg h1, if_neg h2, decide_eq_false h2]; rfl
  rw [hdc]
  clear hdc hc' h hL hn hd hd0
  generalize q * d = s at *
  have hgf := gf162
  go_enter Tryz.func164, Tryz.ntmps164
  go_wp2_with ((first | (refine kb 3 hst rfl rfl ?_; clear hst; intro b3 w hb3 hst) | (refine kc hst tc209 rfl ?_) | (refine kl hst ta24 rfl ?_) | (refine klm hst ta24 rfl ?_)); try simp only [pz, pn, sz, sc])
  refine wp_region_T 7  hst (by kernel_rfl) ?_; clear hst; intro w hst; (try dsimp only [List.length_cons, List.length_nil]); (try simp only [List.length_cons, List.length_nil, Nat.reduceAdd, Array.replicate_succ, Array.replicate_zero, List.push_toArray, List.nil_append, List.cons_append])
  refine rl 0 rfl ?_ (ylC tc209); simp only [pz, pn, sz, sc]
  refine rl 1 rfl ?_ (by first | exact ylA ta24 | exact ylM ta24); simp only [pz, pn, sz, sc]
  refine rl 3 rfl ?_ (by first | exact ylA ta24 | exact ylM ta24); simp only [pz, pn, sz, sc]
  refine r1 2 ?_; (first | (refine kg hgf hst (fun w hst => hsq w (hst.own _ _ (by repeat (first | exact List.Mem.head _ | refine List.Mem.tail _ ?_)))) rfl rfl rfl rfl ?_; clear hst; intro w hst) | (refine kf gf93 hst (hc) rfl rfl rfl rfl ?_; clear hst; intro w hst) | (refine kp ?_)); (try simp only [pz, pn, sz, sc]); refine re ?_
  refine r1 4 ?_; (first | (refine kg hgf hst (fun w hst => hsq w (hst.own _ _ (by repeat (first | exact List.Mem.head _ | refine List.Mem.tail _ ?_)))) rfl rfl rfl rfl ?_; clear hst; intro w hst) | (refine kf gf93 hst (hc) rfl rfl rfl rfl ?_; clear hst; intro w hst) | (refine kp ?_)); (try simp only [pz, pn, sz, sc]); refine re ?_
  refine r0 5 ?_; simp only [pz, pn, sz, sc]
  refine r0 6 ?_; simp only [pz, pn, sz, sc]
  refine rd_ ?_
  go_wp2_with ((first | (refine kb 3 hst rfl rfl ?_; clear hst; intro b3 w hb3 hst) | (refine kc hst tc209 rfl ?_) | (refine kl hst ta24 rfl ?_) | (refine klm hst ta24 rfl ?_)); try simp only [pz, pn, sz, sc])
  refine bp_t rfl rfl (by rfl) ⟨?_, hst.keeps⟩
  rfl

set_option maxHeartbeats 1000000 in
theorem fix_Quotient_3 (n d q : Nat) (hn : n < M) (hd : d < M) (hq : q < M) (h : q * d ≤ n) (b1 b2 b5 : Nat) (E1 E2 E5 : TypeId) (w0 : World) (hL : Owns w0 (quoL b1 b2 b5 n d E1 E2 E5)) :
    GivesAt Tryz.prog 165 #[W q, .pointer (some ⟨b2, 0, none⟩), .pointer (some ⟨b1, 0, none⟩)] (W (n - q * d)) w0 := by
  have hst := St.ofOwns [] hL
  unfold quoL at hst
  have hsq := fun w (h5 : w.heap[b5]? = some (.cells (wc 8 d) E5)) => fix_Quotient_1 q d hq hd (by omega) b5 E5 w h5
  have hwo := fix_without n (q * d) hn h
  clear h hL hn hd
  generalize n - q * d = r at *
  generalize q * d = s at *
  have hgf := gf162
  go_enter Tryz.func165, Tryz.ntmps165
  go_wp2_with ((first | (refine kb 3 hst rfl rfl ?_; clear hst; intro b3 w hb3 hst) | (refine ka 4 hst tz24 rfl rfl ?_; clear hst; intro b4 w hb4 hst) | (refine kl hst ta24 rfl ?_) | (refine klm hst ta24 rfl ?_) | (refine kc hst tc209 rfl ?_) | (refine kt hst ta24 rfl rfl ?_; clear hst; intro w hst) | (refine ktm hst ta24 rfl rfl ?_; clear hst; intro w hst)); try simp only [pz, pn, sz, sc])
  refine wp_region_T 5  hst (by kernel_rfl) ?_; clear hst; intro w hst; (try dsimp only [List.length_cons, List.length_nil]); (try simp only [List.length_cons, List.length_nil, Nat.reduceAdd, Array.replicate_succ, Array.replicate_zero, List.push_toArray, List.nil_append, List.cons_append])
  refine rl 0 rfl ?_ (by first | exact ylA ta24 | exact ylM ta24); simp only [pz, pn, sz, sc]
  refine rl 1 rfl ?_ (ylC tc209); simp only [pz, pn, sz, sc]
  refine rl 2 rfl ?_ (by first | exact ylA ta24 | exact ylM ta24); simp only [pz, pn, sz, sc]
  refine r1 3 ?_; (first | (refine kg hgf hst (fun w hst => hsq w (hst.own _ _ (by repeat (first | exact List.Mem.head _ | refine List.Mem.tail _ ?_)))) rfl rfl rfl rfl ?_; clear hst; intro w hst) | (refine kf gf166 hst (hwo) rfl rfl rfl rfl ?_; clear hst; intro w hst) | (refine kp ?_)); (try simp only [pz, pn, sz, sc]); refine re ?_
  refine r1 4 ?_; (first | (refine kg hgf hst (fun w hst => hsq w (hst.own _ _ (by repeat (first | exact List.Mem.head _ | refine List.Mem.tail _ ?_)))) rfl rfl rfl rfl ?_; clear hst; intro w hst) | (refine kf gf166 hst (hwo) rfl rfl rfl rfl ?_; clear hst; intro w hst) | (refine kp ?_)); (try simp only [pz, pn, sz, sc]); refine re ?_
  refine r1 5 ?_; (first | (refine kt hst ta24 rfl rfl ?_; clear hst; intro w hst) | (refine ktm hst ta24 rfl rfl ?_; clear hst; intro w hst)); (try simp only [pz, pn, sz, sc]); refine re ?_
  refine rd_ ?_
  go_wp2_with ((first | (refine kb 3 hst rfl rfl ?_; clear hst; intro b3 w hb3 hst) | (refine ka 4 hst tz24 rfl rfl ?_; clear hst; intro b4 w hb4 hst) | (refine kl hst ta24 rfl ?_) | (refine klm hst ta24 rfl ?_) | (refine kc hst tc209 rfl ?_) | (refine kt hst ta24 rfl rfl ?_; clear hst; intro w hst) | (refine ktm hst ta24 rfl rfl ?_; clear hst; intro w hst)); try simp only [pz, pn, sz, sc])
  refine bp_c rfl rfl (la hst ta24) ⟨?_, hst.keeps⟩
  rfl

set_option maxHeartbeats 8000000 in
theorem fix_Quotient (n d g m : Nat) (hn : n < M) (hd0 : d ≠ 0) (hd : d < 2 ^ 120) (hnd : n < d * 2 ^ 128) (h1 : g ≤ n / d + 1) (h2 : n / d ≤ g + 1) (hm : 2 ≤ m) (hm2 : m ≤ 100) : Gives Tryz.prog 160 #[W n, W d, W g, .int .i64 m] (.tuple #[W (n / d), W (n % d), .int .i64 (off g (n / d) : Nat), .int .i64 0]) := by
  intro w0
  have hst := St.start [] w0
  have hdM : d < M := small_M (by omega)
  have hmay := radix2_May n d hn hdM
  rw [show mayE n d = 0 by unfold mayE; rw [if_neg hd0, if_neg (by omega)]] at hmay
  have hq : n / d < 2 ^ 128 := by rw [Nat.div_lt_iff_lt_mul (by omega), Nat.mul_comm]; exact hnd
  have htM : n / d + 2 < M := small_M (by omega)
  have hgM : g < M := by omega
  have hlen := wide_Len g hgM
  have l2 : bl g ≤ 200 := bl_le.2 (Nat.lt_of_le_of_lt h1 (Nat.lt_of_le_of_lt hq (by decide)))
  have hdm := Nat.div_mul_le_self n d
  have hmod : n - n / d * d = n % d := by have := Nat.div_add_mod n d; rw [Nat.mul_comm] at this; omega
  have hq2 : ∀ q, q ≤ n / d + 1 → q * d < M := fun q hq => by
    have h3 : q * d ≤ (n / d + 1) * d := Nat.mul_le_mul_right _ hq
    rw [Nat.add_mul, Nat.one_mul] at h3
    exact Nat.lt_of_le_of_lt h3 (small_M (by have := shl128_M hd; omega))
  have k4 := fun (b1 b2 b5 : Nat) E1 E2 E5 (w : World) (ho : Owns w (quoL b1 b2 b5 n d E1 E2 E5)) =>
    fix_told g (n / d) m (n - n / d * d) h1 h2 hm hm2 (by omega) 164 165 gf164 gf165 #[.pointer (some ⟨b1, 0, none⟩), .pointer (some ⟨b2, 0, none⟩)] #[.pointer (some ⟨b2, 0, none⟩), .pointer (some ⟨b1, 0, none⟩)] w
      (fun q w' k hq => fix_Quotient_2 n d q hn hdM (by omega) (by omega) (hq2 q hq) b1 b2 b5 E1 E2 E5 w' ⟨ho.1, fun b o hb => k.at (ho.2 b o hb)⟩) (fun w' k => fix_Quotient_3 n d _ hn hdM (by omega) hdm b1 b2 b5 E1 E2 E5 w' ⟨ho.1, fun b o hb => k.at (ho.2 b o hb)⟩)
  obtain ⟨m', hm', hm3, hm4⟩ : ∃ m' : Int, m' = (m : Int) ∧ 2 ≤ m' ∧ m' ≤ 100 := ⟨m, rfl, by omega, by omega⟩
  rw [hmod] at k4
  clear hq2 htM h1 h2 hm hm2 hmod hdm hq hdM hd hnd hd0 hn hgM
  generalize n % d = r at *
  generalize n / d = t at *
  generalize off g t = x at *
  rw [← hm'] at k4 ⊢
  clear hm'
  generalize bl g = x2 at *
  have Q2 : ¬ ((200 : Int) < (x2 : Int)) := by omega
  have Q3 : ¬ m' < 0 := by omega
  have Q4 : ¬ 100 < m' := by omega
  unfold quoL at k4
  go_enter Tryz.func160, Tryz.ntmps160
  go_wp2_with ((first | (refine kf gf84 hst (hmay) rfl rfl rfl rfl ?_; clear hst; intro w hst) | (refine kf gf92 hst (hlen) rfl rfl rfl rfl ?_; clear hst; intro w hst) | (refine kg gf163 hst (fun w hst => k4 b13 b4 b5 _ _ _ w (Owns.three (List.Nodup.sublist (by repeat (first | exact List.Sublist.refl _ | exact List.nil_sublist _ | refine List.Sublist.cons_cons _ ?_ | refine List.Sublist.cons _ ?_)) hst.nodup) (hst.own _ _ (by repeat (first | exact List.Mem.head _ | refine List.Mem.tail _ ?_))) (hst.own _ _ (by repeat (first | exact List.Mem.head _ | refine List.Mem.tail _ ?_))) (hst.own _ _ (by repeat (first | exact List.Mem.head _ | refine List.Mem.tail _ ?_))))) rfl rfl rfl rfl ?_; clear hst; intro w hst) | (refine wl_guard (by rfl) ?_) | (refine kb 4 hst rfl rfl ?_; clear hst; intro b4 w hb4 hst) | (refine kb 5 hst rfl rfl ?_; clear hst; intro b5 w hb5 hst) | (refine kb 6 hst rfl rfl ?_; clear hst; intro b6 w hb6 hst) | (refine ka 8 hst tz24 rfl rfl ?_; clear hst; intro b8 w hb8 hst) | (refine ka 9 hst tz24 rfl rfl ?_; clear hst; intro b9 w hb9 hst) | (refine kl hst ta24 rfl ?_) | (refine klm hst ta24 rfl ?_) | (refine kt hst ta24 rfl rfl ?_; clear hst; intro w hst) | (refine ktm hst ta24 rfl rfl ?_; clear hst; intro w hst) | (refine ka 13 hst tz209 rfl rfl ?_; clear hst; intro b13 w hb13 hst) | (refine ks hst tc209 rfl rfl ?_; clear hst; intro w hst)); try simp only [pz, pn, sz, sc])
  refine bp_cctt rfl rfl (la hst ta24) (la hst ta24) (by rfl) (by rfl) ⟨?_, hst.keeps⟩
  rfl

end Go.Proofs.YtggchelniblipaaGreatDoor.Rd
