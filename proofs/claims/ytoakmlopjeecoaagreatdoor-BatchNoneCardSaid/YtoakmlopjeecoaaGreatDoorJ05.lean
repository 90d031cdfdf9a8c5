/- Rounding (plain): what is cut off, told by the lower half or by the middle; a number known in units of a place, and whether there is more. -/
import Derived.Test.YtoakmlopjeecoaaGreatDoorJ04
import Derived.Laws.MakeOwn
import Derived.Test.YtoakmlopjeecoaaGreatDoorJ03
import Derived.Test.YtoakmlopjeecoaaGreatDoorJ02
import Derived.WideMake
namespace Go.Proofs.YtoakmlopjeecoaaGreatDoor.Rd
open Go Go.RowKit
set_option linter.unusedVariables false
set_option linter.unusedSimpArgs false
set_option maxRecDepth 100000

/-- A limb of a number that is shifted down; beyond the end y. -/
def shrL (a c y i : Nat) : Nat := wat a ((i : Int) + (c / 64 : Nat)) y / 2 ^ (c % 64) ||| wat a ((i : Int) + (c / 64 : Nat) + 1) y * 2 ^ (64 - c % 64) % B
theorem shrL_lt (a c y i : Nat) (hy : y < B) : shrL a c y i < B := or_B (Nat.lt_of_le_of_lt (Nat.div_le_self _ _) (wat_lt _ _ _ hy)) (Nat.mod_lt _ B_pos)
/-- Digit by digit: beyond the 512th the one of v. -/
theorem shr_bit (a c y i j : Nat) (v : Bool) (ha : a < M) (hyB : y < B) (hy : ∀ j, j < 64 → y.testBit j = v) (hi : i < 8) (hj : j < 64) : (shrL a c y i).testBit j = if c + (64 * i + j) < 512 then a.testBit (c + (64 * i + j)) else v := by
  have hr : c % 64 < 64 := Nat.mod_lt _ (by omega)
  have hq : c = 64 * (c / 64) + c % 64 := by omega
  unfold shrL
  rw [Nat.testBit_or, mod_B, Nat.mul_comm (wat _ _ _), Nat.testBit_two_pow_mul, Nat.testBit_div_two_pow]
  generalize c / 64 = q at *
  generalize c % 64 = r at *
  subst hq
  simp only [hj, decide_true, Bool.true_and]
  by_cases h1 : j + r < 64
  · have h2 : decide (64 - r ≤ j) = false := by simp; omega
    rw [h2, wat_bit _ _ _ _ h1 ha]
    simp only [Bool.false_and, Bool.or_false]
    rw [if_neg (by omega)]
    by_cases h3 : i + q < 8
    · rw [if_neg (by omega), if_pos (by omega)]; congr 1; omega
    · rw [if_pos (by omega), if_neg (by omega), hy _ h1]
  · have h2 : decide (64 - r ≤ j) = true := by simp; omega
    rw [high_bit (wat_lt a _ y hyB) (show 64 ≤ j + r by omega), h2, wat_bit _ _ _ _ (show j - (64 - r) < 64 by omega) ha]
    simp only [Bool.false_or, Bool.true_and]
    rw [if_neg (by omega)]
    by_cases h3 : i + q + 1 < 8
    · rw [if_neg (by omega), if_pos (by omega)]; congr 1; omega
    · rw [if_pos (by omega), if_neg (by omega), hy _ (by omega)]
theorem shr_limb (a c i : Nat) (ha : a < M) (hi : i < 8) : shrL a c 0 i = lb (a / 2 ^ c) i := by
  apply Nat.eq_of_testBit_eq
  intro j
  by_cases hj : j < 64
  · rw [shr_bit a c 0 i j false ha B_pos (fun _ _ => by simp) hi hj, lb_testBit, Nat.testBit_div_two_pow]
    simp only [hj, decide_true, Bool.true_and]
    rw [Nat.add_comm (64 * i + j)]
    split
    · rfl
    · rw [M_bit ha (by omega)]
  · rw [high_bit (shrL_lt a c 0 i B_pos) (by omega), high_bit (lb_lt _ _) (by omega)]

set_option maxHeartbeats 4000000 in
theorem wide_down_1 (a c y i : Nat) (ha : a < M) (hc : c ≤ 512) (hy : y < B) (hi : i < 8) (b1 b2 b3 b4 : Nat) (E1 E2 E3 E4 : TypeId) (hn : [b4, b2, b3, b1].Nodup) (w0 : World)
    (h1 : w0.heap[b1]? = some (.cells (wc 8 a) E1)) (h2 : w0.heap[b2]? = some (.cells #[.int .i64 (c / 64 : Nat)] E2)) (h3 : w0.heap[b3]? = some (.cells #[.int .u64 y] E3)) (h4 : w0.heap[b4]? = some (.cells #[.int .i64 (c % 64 : Nat)] E4)) :
    GivesAt Tryz.prog 166 #[.int .i64 (i : Nat), .pointer (some ⟨b1, 0, none⟩), .pointer (some ⟨b2, 0, none⟩), .pointer (some ⟨b3, 0, none⟩), .pointer (some ⟨b4, 0, none⟩)] (.int .u64 (shrL a c y i : Nat)) w0 := by
  have hst : St w0 [] [(b4, .cells #[.int .i64 (c % 64 : Nat)] E4), (b2, .cells #[.int .i64 (c / 64 : Nat)] E2), (b3, .cells #[.int .u64 y] E3), (b1, .cells (wc 8 a) E1)] w0 :=
    ⟨Keeps.refl _ _, fun b o h => by simp only [List.mem_cons, Prod.mk.injEq, List.not_mem_nil, or_false] at h; rcases h with ⟨rfl, rfl⟩ | ⟨rfl, rfl⟩ | ⟨rfl, rfl⟩ | ⟨rfl, rfl⟩ <;> assumption, hn⟩
  have hx := wide_at a ((i : Int) + (c / 64 : Nat)) y
  have hz := wide_at a ((i : Int) + (c / 64 : Nat) + 1) y
  have hxB := wat_lt a ((i : Int) + (c / 64 : Nat)) y hy
  have hzB := wat_lt a ((i : Int) + (c / 64 : Nat) + 1) y hy
  unfold shrL
  have hq : c / 64 ≤ 8 := by omega
  have hr : c % 64 < 64 := Nat.mod_lt _ (by omega)
  generalize c / 64 = q at *
  generalize c % 64 = r at *
  generalize wat a ((i : Int) + (q : Nat)) y = x at *
  generalize wat a ((i : Int) + (q : Nat) + 1) y = z at *
  obtain ⟨s, hs⟩ : ∃ s, s = x / 2 ^ r := ⟨_, rfl⟩
  obtain ⟨t, ht⟩ : ∃ t, t = z * 2 ^ (64 - r) % B := ⟨_, rfl⟩
  have hsB : s < B := by rw [hs]; exact Nat.lt_of_le_of_lt (Nat.div_le_self _ _) hxB
  have htB : t < B := by rw [ht]; exact Nat.mod_lt _ B_pos
  rw [← hs, ← ht]
  have F1 : IntKind.u64.wrap ((z : Int) * 2 ^ (64 - r)) = (t : Int) := u64_wrap' _ (z * 2 ^ (64 - r)) _ (by rw [cast_pow2]; exact (Int.natCast_mul _ _).symm) ht.symm
  have F2 : (x : Int) / 2 ^ r = (s : Int) := by rw [hs, cast_pow2]; omega
  have F3 := bits_or64 s t hsB htB
  have w1 : IntKind.i64.wrap ((i : Int) + (q : Int)) = (i : Int) + q := i64w _ (by omega) (by omega)
  have w2 : IntKind.i64.wrap ((i : Int) + (q : Int) + 1) = (i : Int) + q + 1 := i64w _ (by omega) (by omega)
  have w3 : IntKind.i64.wrap (64 - (r : Int)) = ((64 - r : Nat) : Int) := by rw [i64w _ (by omega) (by omega)]; omega
  clear hs ht hsB htB hxB hzB h1 h2 h3 h4 ha hn hy
  go_enter Tryz.func166, Tryz.ntmps166
  go_wp2_with fail
  refine wp_region_T 20  hst (by kernel_rfl) ?_; clear hst; intro w hst; (try simp only [List.length_cons, List.length_nil, Nat.reduceAdd, Array.replicate_succ, Array.replicate_zero, List.push_toArray, List.nil_append, List.cons_append])
  refine r0 1 ?_; simp only [pz, pn, sz, sc, w1, w2, w3, F1, F2, F3]
  refine r0 9 ?_; simp only [pz, pn, sz, sc, w1, w2, w3, F1, F2, F3]
  refine rl 0 rfl ?_ (by first | exact ylA ta109 | exact ylM ta109); simp only [pz, pn, sz, sc, w1, w2, w3, F1, F2, F3]
  refine rl 2 rfl ?_ (ylC tc3); simp only [pz, pn, sz, sc, w1, w2, w3, F1, F2, F3]
  refine r0 3 ?_; simp only [pz, pn, sz, sc, w1, w2, w3, F1, F2, F3]
  refine rl 4 rfl ?_ (ylC tc22); simp only [pz, pn, sz, sc, w1, w2, w3, F1, F2, F3]
  refine rl 6 rfl ?_ (ylC tc3); simp only [pz, pn, sz, sc, w1, w2, w3, F1, F2, F3]
  refine rl 8 rfl ?_ (by first | exact ylA ta109 | exact ylM ta109); simp only [pz, pn, sz, sc, w1, w2, w3, F1, F2, F3]
  refine rl 10 rfl ?_ (ylC tc3); simp only [pz, pn, sz, sc, w1, w2, w3, F1, F2, F3]
  refine r0 11 ?_; simp only [pz, pn, sz, sc, w1, w2, w3, F1, F2, F3]
  refine r0 12 ?_; simp only [pz, pn, sz, sc, w1, w2, w3, F1, F2, F3]
  refine rl 13 rfl ?_ (ylC tc22); simp only [pz, pn, sz, sc, w1, w2, w3, F1, F2, F3]
  refine rl 15 rfl ?_ (ylC tc3); simp only [pz, pn, sz, sc, w1, w2, w3, F1, F2, F3]
  refine r0 16 ?_; simp only [pz, pn, sz, sc, w1, w2, w3, F1, F2, F3]
  refine r1 5 ?_; (refine kf gf138 hst (hx) rfl rfl rfl rfl ?_; clear hst; intro w hst); (try simp only [pz, pn, sz, sc, w1, w2, w3, F1, F2, F3]); refine re ?_
  refine r0 7 ?_; simp only [pz, pn, sz, sc, w1, w2, w3, F1, F2, F3]
  refine r1 14 ?_; (refine kf gf138 hst (hz) rfl rfl rfl rfl ?_; clear hst; intro w hst); (try simp only [pz, pn, sz, sc, w1, w2, w3, F1, F2, F3]); refine re ?_
  refine r0 17 ?_; simp only [pz, pn, sz, sc, w1, w2, w3, F1, F2, F3]
  refine r0 18 ?_; simp only [pz, pn, sz, sc, w1, w2, w3, F1, F2, F3]
  refine r0 19 ?_; simp only [pz, pn, sz, sc, w1, w2, w3, F1, F2, F3]
  refine rd_ ?_
  go_wp2_with fail
  refine bp_t rfl rfl (by rfl) ⟨?_, hst.keeps⟩
  rfl

theorem Keeps.at {w w' : World} {b : Nat} {o : Obj} (k : Keeps [] w w') (h : w.heap[b]? = some o) : w'.heap[b]? = some o := by rw [k.block _ (lt_of_some h) (by simp)]; exact h

set_option maxHeartbeats 4000000 in
theorem wide_down (a c y m : Nat) (ha : a < M) (hc : c ≤ 512) (hy : y < B) (hm : lsum (shrL a c y) 8 = m) : Gives Tryz.prog 147 #[W a, .int .i64 c, .int .u64 y] (W m) := by
  intro w0
  have hst := St.start [] w0
  have hmade := fun b3 b7 b5 b8 w (hn : [b8, b7, b5, b3].Nodup) (h1 : w.heap[b3]? = some (.cells (wc 8 a) 109)) (h2 : w.heap[b7]? = some (.cells #[.int .i64 (c / 64 : Nat)] 3)) (h3 : w.heap[b5]? = some (.cells #[.int .u64 y] 22)) (h4 : w.heap[b8]? = some (.cells #[.int .i64 (c % 64 : Nat)] 3)) =>
    wide_made 166 gf166 #[.pointer (some ⟨b3, 0, none⟩), .pointer (some ⟨b7, 0, none⟩), .pointer (some ⟨b5, 0, none⟩), .pointer (some ⟨b8, 0, none⟩)] (shrL a c y) (fun i => shrL_lt a c y i hy) w
      (fun i w' hi k => wide_down_1 a c y i ha hc hy hi b3 b7 b5 b8 _ _ _ _ hn w' (k.at h1) (k.at h2) (k.at h3) (k.at h4))
  rw [hm] at hmade
  have Q1 : (c : Int) / 64 = ((c / 64 : Nat) : Int) := by omega
  have Q2 : (c : Int) % 64 = ((c % 64 : Nat) : Int) := by omega
  have Q3 : (0 : Int) ≤ (c : Int) := by omega
  have Q5 : (c : Int).tdiv 64 = ((c / 64 : Nat) : Int) := by rw [Int.tdiv_eq_ediv_of_nonneg (by omega)]; exact Q1
  have Q6 : (c : Int).tmod 64 = ((c % 64 : Nat) : Int) := by rw [Int.tmod_eq_emod_of_nonneg (by omega)]; exact Q2
  have hq : c / 64 ≤ 8 := by omega
  have hr : c % 64 < 64 := Nat.mod_lt _ (by omega)
  clear hm hc
  generalize c / 64 = q at *
  generalize c % 64 = r at *
  go_enter Tryz.func147, Tryz.ntmps147
  go_wp2_with ((first | (refine kg gf136 hst (fun w hst => hmade b3 b7 b5 b8 w (List.Nodup.sublist (by repeat (first | exact List.Sublist.refl _ | exact List.nil_sublist _ | refine List.Sublist.cons_cons _ ?_ | refine List.Sublist.cons _ ?_)) hst.nodup) (hst.own _ _ (by repeat (first | exact List.Mem.head _ | refine List.Mem.tail _ ?_))) (hst.own _ _ (by repeat (first | exact List.Mem.head _ | refine List.Mem.tail _ ?_))) (hst.own _ _ (by repeat (first | exact List.Mem.head _ | refine List.Mem.tail _ ?_))) (hst.own _ _ (by repeat (first | exact List.Mem.head _ | refine List.Mem.tail _ ?_)))) rfl rfl rfl rfl ?_; clear hst; intro w hst) | (refine kb 3 hst rfl rfl ?_; clear hst; intro b3 w hb3 hst) | (refine kb 5 hst rfl rfl ?_; clear hst; intro b5 w hb5 hst) | (refine ka 6 hst tz109 rfl rfl ?_; clear hst; intro b6 w hb6 hst) | (refine ka 7 hst tz3 rfl rfl ?_; clear hst; intro b7 w hb7 hst) | (refine ka 8 hst tz3 rfl rfl ?_; clear hst; intro b8 w hb8 hst) | (refine ks hst tc3 rfl rfl ?_; clear hst; intro w hst) | (refine kt hst ta109 rfl rfl ?_; clear hst; intro w hst)); try simp only [pz, pn, sz, sc])
  refine bp_c rfl rfl (la hst ta109) ⟨?_, hst.keeps⟩
  rfl

theorem wide_Shr (a : Nat) (n : Int) (ha : a < M) : Gives Tryz.prog 108 #[W a, .int .i64 n] (.tuple #[W (a / 2 ^ clampN n), .bool (!decide (a / 2 ^ clampN n * 2 ^ clampN n = a))]) := by
  intro w0
  have hst := St.start [] w0
  have hcl := wide_clamp n
  have hc := clampN_le n
  have hdown := wide_down a (clampN n) 0 (a / 2 ^ clampN n) ha hc B_pos (lsum_of (Nat.lt_of_le_of_lt (Nat.div_le_self _ _) ha) (fun i hi => shr_limb a (clampN n) i ha hi))
  have hlt : a / 2 ^ clampN n < M := Nat.lt_of_le_of_lt (Nat.div_le_self _ _) ha
  have hshl := wide_Shl (a / 2 ^ clampN n) (clampN n : Nat) hlt
  rw [clampN_nat _ hc] at hshl
  have hle : a / 2 ^ clampN n * 2 ^ clampN n < M := Nat.lt_of_le_of_lt (Nat.div_mul_le_self _ _) ha
  rw [Nat.mod_eq_of_lt hle] at hshl
  generalize a / 2 ^ clampN n * 2 ^ clampN n = s at *
  generalize a / 2 ^ clampN n = q at *
  generalize clampN n = c at *
  have hd : ∃ d, decide (s = a) = d := ⟨_, rfl⟩
  obtain ⟨d, hd⟩ := hd
  rw [hd]
  go_enter Tryz.func108, Tryz.ntmps108
  go_wp2_with ((first | (refine kf gf135 hst (hcl) rfl rfl rfl rfl ?_; clear hst; intro w hst) | (refine kf gf147 hst (hdown) rfl rfl rfl rfl ?_; clear hst; intro w hst) | (refine kb 2 hst rfl rfl ?_; clear hst; intro b2 w hb2 hst) | (refine ka 4 hst tz109 rfl rfl ?_; clear hst; intro b4 w hb4 hst) | (refine kl hst ta109 rfl ?_) | (refine ka 6 hst tz109 rfl rfl ?_; clear hst; intro b6 w hb6 hst) | (refine kt hst ta109 rfl rfl ?_; clear hst; intro w hst)); try simp only [pz, pn, sz, sc])
  refine wp_region_TV 8 [(b6, .cells (wc 8 q) 109), (b2, .cells (wc 8 a) 109)] hst (by kernel_rfl) ?_; clear hst; intro w hst; (try simp only [List.length_cons, List.length_nil, Nat.reduceAdd, Array.replicate_succ, Array.replicate_zero, List.push_toArray, List.nil_append, List.cons_append])
  refine r0 2 ?_; simp only [pz, pn, sz, sc]
  refine rl 0 rfl ?_ (by first | exact ylA ta109 | exact ylM ta109); simp only [pz, pn, sz, sc]
  refine rl 1 rfl ?_ (by first | exact ylA ta109 | exact ylM ta109); simp only [pz, pn, sz, sc]
  refine rl 4 rfl ?_ (by first | exact ylA ta109 | exact ylM ta109); simp only [pz, pn, sz, sc]
  refine r1 3 ?_; (refine kf gf99 hst (hshl) rfl rfl rfl rfl ?_; clear hst; intro w hst); (try simp only [pz, pn, sz, sc]); refine re ?_
  refine r0 5 ?_ (hy := yN tr109 tc22); simp only [pz, pn, sz, sc]
  refine r1 6 ?_; (refine kt hst ta109 rfl rfl ?_; clear hst; intro w hst); (try simp only [pz, pn, sz, sc]); refine re ?_
  refine r0 7 ?_; simp only [pz, pn, sz, sc]
  refine rd_ ?_
  go_wp2_with fail
  refine bp_ct rfl rfl (la hst ta109) (by rfl) ⟨?_, hst.keeps⟩
  rfl

end Go.Proofs.YtoakmlopjeecoaaGreatDoor.Rd

namespace Go.Proofs.YtoakmlopjeecoaaGreatDoor.Rd
open Go Go.RowKit
set_option linter.unusedVariables false
set_option linter.unusedSimpArgs false
set_option maxRecDepth 100000

/-- The cells of a number of k digits. -/
def uw (k n : Nat) : Array Value := (Array.range k).map fun i => .int .u32 (dg n i : Nat)
@[simp] theorem uw_size (k n : Nat) : (uw k n).size = k := by simp [uw]
theorem uw_get (k n i : Nat) (h : i < k) : (uw k n)[i]? = some (.int .u32 (dg n i : Nat)) := by simp [uw, h]

section
variable {P : Program} {ops : Array Oper} {rest : List Oper} {Q : Exit → Act → World → Prop} {a : Act} {w w0 : World} {S : List Nat} {L : List (Nat × Obj)}
end

end Go.Proofs.YtoakmlopjeecoaaGreatDoor.Rd

namespace Go.Proofs.YtoakmlopjeecoaaGreatDoor.Rd
open Go Go.RowKit
set_option linter.unusedVariables false
set_option linter.unusedSimpArgs false
set_option maxRecDepth 100000

/-- New blocks: all from s on, each once. -/
def NewIn (s : Nat) (Lg : List (Nat × Obj)) : Prop := (∀ x ∈ Lg, s ≤ x.1) ∧ (Lg.map Prod.fst).Nodup
/-- What a call brings: a value and new blocks, as R says. -/
def PostN (R : List (Nat × Obj) → Value → Prop) (w0 : World) (e : Ending) (w' : World) : Prop := ∃ v Lg, e = .returned v ∧ Keeps [] w0 w' ∧ NewIn w0.heap.size Lg ∧ R Lg v ∧ ∀ b o, (b, o) ∈ Lg → w'.heap[b]? = some o
def GivesN (P : Program) (f : FuncId) (args : Array Value) (R : List (Nat × Obj) → Value → Prop) (w0 : World) : Prop := Calls P f args w0 (PostN R w0)
theorem PostN.of {R : List (Nat × Obj) → Value → Prop} {w0 w : World} {v : Value} {Lg L : List (Nat × Obj)} (hst : St w0 [] L w) (hn : NewIn w0.heap.size Lg) (hR : R Lg v) (hs : ∀ x ∈ Lg, x ∈ L) : PostN R w0 (.returned v) w := ⟨v, Lg, rfl, hst.keeps, hn, hR, fun b o h => hst.own b o (hs _ h)⟩

/-- In L the blocks of Ls hold what it says; with Ls' there it is L'. -/
inductive Swap : List (Nat × Obj) → List (Nat × Obj) → List (Nat × Obj) → List (Nat × Obj) → Prop
  | nil (L) : Swap [] [] L L
  | cons {b : Nat} {o o' : Obj} {Ls Ls' L L1 L'} : At b o o' L L1 → Swap Ls Ls' L1 L' → Swap ((b, o) :: Ls) ((b, o') :: Ls') L L'
theorem Swap.keys {Ls Ls' L L' : List (Nat × Obj)} (h : Swap Ls Ls' L L') : L'.map Prod.fst = L.map Prod.fst := by
  induction h with
  | nil => rfl
  | cons ha _ ih => rw [ih, ha.keys]
theorem Swap.mem {Ls Ls' L L' : List (Nat × Obj)} (h : Swap Ls Ls' L L') (hn : (L.map Prod.fst).Nodup) : ∀ b x, (b, x) ∈ L' → (b, x) ∈ Ls' ∨ (b ∉ Ls.map Prod.fst ∧ (b, x) ∈ L) := by
  induction h with
  | nil => intro b x hm; exact .inr ⟨by simp, hm⟩
  | cons ha hs ih =>
    intro b x hm
    rcases ih (by rw [ha.keys]; exact hn) b x hm with h' | ⟨h1, h2⟩
    · exact .inl (List.mem_cons_of_mem _ h')
    · rcases ha.mem' hn b x h2 with ⟨rfl, rfl⟩ | ⟨h3, h4⟩
      · exact .inl (List.mem_cons_self ..)
      · exact .inr ⟨by simp only [List.map_cons, List.mem_cons, not_or]; exact ⟨h3, h1⟩, h4⟩
theorem Swap.own {Ls Ls' L L' : List (Nat × Obj)} (h : Swap Ls Ls' L L') (hn : (Ls.map Prod.fst).Nodup) : ∀ x ∈ Ls, x ∈ L := by
  induction h with
  | nil => intro x hm; cases hm
  | @cons b o o' Ls Ls' L L1 L' ha hs ih =>
    simp only [List.map_cons, List.nodup_cons] at hn
    intro x hm
    rcases List.mem_cons.1 hm with rfl | hm
    · exact ha.mem
    · have h1 := ih hn.2 x hm
      have hne : x.1 ≠ b := fun e => hn.1 (e ▸ List.mem_map_of_mem (f := Prod.fst) hm)
      clear ih hs hm
      induction ha with
      | head L =>
        rcases List.mem_cons.1 h1 with rfl | h
        · exact absurd rfl hne
        · exact List.mem_cons_of_mem _ h
      | tail y L L' _ ih =>
        rcases List.mem_cons.1 h1 with rfl | h
        · exact List.mem_cons_self ..
        · exact List.mem_cons_of_mem _ (ih h)
theorem St.puts {w0 w w' : World} {S : List Nat} {Ls Ls' L L' : List (Nat × Obj)} (h : St w0 S L w) (hs : Swap Ls Ls' L L') (hb : ∀ x ∈ Ls, w0.heap.size ≤ x.1 ∨ x.1 ∈ S)
    (k : Keeps (Ls.map Prod.fst) w w') (hnew : ∀ b o, (b, o) ∈ Ls' → w'.heap[b]? = some o) : St w0 S L' w' :=
  ⟨h.keeps.trans k (fun x hx hlt => by
      obtain ⟨y, hy, rfl⟩ := List.mem_map.1 hx
      rcases hb y hy with h' | h'
      · omega
      · exact h'),
    fun b x hm => by
      rcases hs.mem h.nodup b x hm with h1 | ⟨h1, h2⟩
      · exact hnew _ _ h1
      · have hown := h.own b x h2
        rw [k.block b (lt_of_some hown) h1]
        exact hown,
    by rw [hs.keys]; exact h.nodup⟩

/-- Each of these blocks is new, or one that may turn. -/
inductive Mine (s : Nat) (S : List Nat) : List (Nat × Obj) → Prop
  | nil : Mine s S []
  | cons {b : Nat} {o : Obj} {L : List (Nat × Obj)} : (s ≤ b ∨ b ∈ S) → Mine s S L → Mine s S ((b, o) :: L)
theorem Mine.all {s : Nat} {S : List Nat} {L : List (Nat × Obj)} (h : Mine s S L) : ∀ x ∈ L, s ≤ x.1 ∨ x.1 ∈ S := by
  induction h with
  | nil => intro x hx; cases hx
  | cons h _ ih =>
    intro x hx
    rcases List.mem_cons.1 hx with rfl | hx
    · exact h
    · exact ih x hx

/-- A call that writes the blocks Ls, so that they are Ls' then. -/
def GivesT (P : Program) (f : FuncId) (args : Array Value) (v : Value) (Ls Ls' : List (Nat × Obj)) (w : World) : Prop := Calls P f args w fun e w' => e = .returned v ∧ Keeps (Ls.map Prod.fst) w w' ∧ ∀ b o, (b, o) ∈ Ls' → w'.heap[b]? = some o
theorem GivesT.of {S : List Nat} {w0 w : World} {v : Value} {Ls L' Ls' : List (Nat × Obj)} (hst : St w0 S L' w) (hS : S = Ls.map Prod.fst) (hs : ∀ x ∈ Ls', x ∈ L') : (Ending.returned v = .returned v) ∧ Keeps (Ls.map Prod.fst) w0 w ∧ ∀ b o, (b, o) ∈ Ls' → w.heap[b]? = some o :=
  ⟨rfl, hS ▸ hst.keeps, fun b o h => hst.own b o (hs _ h)⟩

section
variable {P : Program} {ops : Array Oper} {rest : List Oper} {Q : Exit → Act → World → Prop} {a : Act} {w w0 : World} {S : List Nat} {L L' : List (Nat × Obj)}
theorem kN {o : Oper} {c : Call} {x : Operand} {f : FuncId} {cap : Array Value} {args : List Value} {R : List (Nat × Obj) → Value → Prop} (hf : GoF P f) (hst : St w0 S L w) (hc : ∀ w, St w0 S L w → GivesN P f args.toArray R w)
    (ho : o.op = .call c) (hcal : c.callee = .value x) (hx : a.eval x = .func (.func f) #[] cap) (hargs : c.args.toList.map a.eval ++ cap.toList = args)
    (h : ∀ v Lg w', NewIn w0.heap.size Lg → R Lg v → St w0 S (L ++ Lg) w' → wpList P ops Q rest (a.put o.dst v) w') (hg : o.guard = none := by rfl) : wpList P ops Q (o :: rest) a w := by
  refine wpList_plain hg fun K hK => ?_
  unfold Oper.wp
  rw [run_execOp_call ho hcal hx, args_eq hargs, run_callFunc_go hf, Oper.upon_enter]
  refine (hc w hst).mono fun e w'' hh => ?_
  obtain ⟨v, Lg, rfl, hk, hn, hR, hown⟩ := hh
  exact hK _ _ (h v Lg w'' ⟨fun x hx => Nat.le_trans hst.keeps.size (hn.1 x hx), hn.2⟩ hR (hst.more hk hn.1 hn.2 hown))
theorem kT {o : Oper} {c : Call} {x : Operand} {f : FuncId} {cap : Array Value} {args : List Value} {v : Value} {Ls Ls' : List (Nat × Obj)} (hf : GoF P f) (hst : St w0 S L w) (hc : ∀ w, St w0 S L w → GivesT P f args.toArray v Ls Ls' w)
    (ho : o.op = .call c) (hcal : c.callee = .value x) (hx : a.eval x = .func (.func f) #[] cap) (hargs : c.args.toList.map a.eval ++ cap.toList = args)
    (h : ∀ w', St w0 S L' w' → wpList P ops Q rest (a.put o.dst v) w')
    (hsw : Swap Ls Ls' L L' := by repeat (first | exact Swap.nil _ | exact At.head _ | apply At.tail | apply Swap.cons))
    (hb : Mine w0.heap.size S Ls := by repeat (first | exact Mine.nil | refine Mine.cons (by first | exact Or.inl (by assumption) | (refine Or.inr ?_; simp)) ?_)) (hg : o.guard = none := by rfl) : wpList P ops Q (o :: rest) a w := by
  refine wpList_plain hg fun K hK => ?_
  unfold Oper.wp
  rw [run_execOp_call ho hcal hx, args_eq hargs, run_callFunc_go hf, Oper.upon_enter]
  refine (hc w hst).mono fun e w'' hh => ?_
  obtain ⟨rfl, hk, hown⟩ := hh
  exact hK _ _ (h w'' (hst.puts hsw hb.all hk hown))
end

/-- A slice of limbs in a block of its own. -/
def LimbIn (l n : Nat) (Lg : List (Nat × Obj)) (v : Value) : Prop := n < B ^ l ∧ l ≤ 100000 ∧ ∃ b cap k m E, v = .slice (some ⟨b, 0, none⟩) l cap ∧ l ≤ cap ∧ l ≤ k ∧ Lg = [(b, .cells (wc k m) E)] ∧ m % B ^ l = n
theorem LimbIn.at {l n : Nat} {Lg : List (Nat × Obj)} {v : Value} (h : LimbIn l n Lg v) {w0 w : World} {S : List Nat} {L : List (Nat × Obj)} (hst : St w0 S L w) (hs : ∀ x ∈ Lg, x ∈ L) : LimbAt w v l n := by
  obtain ⟨h1, h2, b, cap, k, m, E, rfl, h3, h4, rfl, h5⟩ := h
  exact ⟨h1, h2, b, cap, k, m, E, (0, 0), rfl, h3, h4, hst.own _ _ (hs _ (by simp)), h5⟩

end Go.Proofs.YtoakmlopjeecoaaGreatDoor.Rd

namespace Go.Proofs.YtoakmlopjeecoaaGreatDoor.Rd
open Go Go.RowKit
set_option linter.unusedVariables false
set_option linter.unusedSimpArgs false

section maps
variable {P : Program} {ops : Array Oper} {rest : List Oper} {Q : Exit → Act → World → Prop} {a : Act} {w w0 : World} {S : List Nat} {L L' : List (Nat × Obj)}

/-- A map's type, by whole numbers. -/
structure MapT (P : Program) (T K E : TypeId) (q : IntKind) : Prop where
  map : P.underlying T = some (.map K E)
  key : P.underlying K = some (.int q)

theorem run_underlying {t : TypeId} {d : TypeDesc} (h : P.underlying t = some d) (w : World) : (underlying t).run P w = .ok d w := by
  simp [underlying, Sem.run, h]
theorem run_checkKey {K : TypeId} {q : IntKind} (h : P.underlying K = some (.int q)) (e : Bool) (k : Int) (w : World) : (Instr.checkKey e 10000 K (.int q k)).run P w = .ok () w := by
  unfold Instr.checkKey
  simp [run_underlying h]
theorem run_findKey {K : TypeId} {q : IntKind} (h : P.underlying K = some (.int q)) (k : Int) (es : List MapEntry) (r : Option (Nat × Value)) (hf : Instr.findNow (.int q) (.int q k) es 0 = some r) (w : World) : (Instr.findKey K (.int q k) es).run P w = .ok r w := by
  unfold Instr.findKey
  simp [run_underlying h, hf]

theorem run_getObj_mp {b c : Nat} {es : Array MapEntry} (hb : w.heap[b]? = some (.map es c)) : (getObj b).run P w = .ok (.map es c) w := by simp [getObj, Sem.run, hb]
theorem run_setObj_mp {b c : Nat} {es : Array MapEntry} (o : Obj) (hb : w.heap[b]? = some (.map es c)) : (setObj b o).run P w = .ok () { w with heap := w.heap.setIfInBounds b o } := by simp [setObj, Sem.run, hb]
/-- An empty map. -/
theorem kMk (s : Nat) {o : Oper} {T : TypeId} (hst : St w0 S L w) (hd : o.dst = some s) (ho : o.op = .makeMap T none)
    (h : ∀ b w', w0.heap.size ≤ b → St w0 S ((b, .map #[] 0) :: L) w' → wpList P ops Q rest (a.put o.dst (.map (some b))) w') (hg : o.guard = none := by rfl) : wpList P ops Q (o :: rest) a w := by
  refine wpList_plain hg fun K hK => ?_
  unfold Oper.wp execOp
  simp only [ho, Option.map_none, Sem.run_bind, run_makeMap_plain, Sem.run_pure, Result.andThen_ok]
  exact hK _ _ (h _ _ hst.keeps.size (hst.alloc _))

/-- The same in a map's literal. -/
theorem kMi {o : Oper} {T K E : TypeId} {q : IntKind} {m k x : Operand} {b c : Nat} {kk : Int} {v : Value} {es : Array MapEntry} (hst : St w0 S L w) (hT : MapT P T K E q) (hd : o.dst = none) (ho : o.op = .insert T m k x)
    (h : ∀ w', St w0 S L' w' → wpList P ops Q rest a w')
    (hm : a.eval m = .map (some b) := by rfl) (hk : a.eval k = .int q kk := by rfl) (hx : a.eval x = v := by rfl) (hat : At b (.map es c) (.map (es.push ⟨.int q kk, v, c⟩) (c + 1)) L L' := by repeat (first | exact At.head _ | apply At.tail))
    (hf : Instr.findNow (.int q) (.int q kk) es.toList 0 = some none := by rfl) (hb : w0.heap.size ≤ b ∨ b ∈ S := by first | exact Or.inl (by assumption) | (refine Or.inr ?_; simp)) (hg : o.guard = none := by rfl) : wpList P ops Q (o :: rest) a w := by
  have hown := hst.own _ _ hat.mem
  have hlt := lt_of_some hown
  refine wpList_plain hg fun K' hK => ?_
  unfold Oper.wp execOp
  simp only [ho, hm, hk, hx, Sem.run_bind, Instr.mapUpdate, run_underlying hT.map, Result.andThen_ok, run_getObj_mp hown, run_checkKey hT.key, run_findKey hT.key _ _ _ hf, run_setObj_mp _ hown, Sem.run_pure]
  have hput : a.put o.dst undef = a := by rw [hd]; rfl
  rw [Oper.upon_skip, hput]
  refine hK _ _ (h _ (hst.put hat hb ⟨rfl, rfl, rfl, by simp, fun j hj hn => ?_⟩ ?_))
  · have : b ≠ j := fun e => hn (by simp [e])
    simp [Array.getElem?_setIfInBounds_ne this]
  · simp [hlt]

/-- An entry that is there. -/
theorem kLu {o : Oper} {T K E : TypeId} {q : IntKind} {m k : Operand} {b c j : Nat} {kk : Int} {v : Value} {es : Array MapEntry} (hst : St w0 S L w) (hT : MapT P T K E q) (ho : o.op = .lookup T m k false)
    (h : wpList P ops Q rest (a.put o.dst v) w)
    (hm : a.eval m = .map (some b) := by rfl) (hk : a.eval k = .int q kk := by rfl) (hmem : (b, .map es c) ∈ L := by repeat (first | exact List.Mem.head _ | refine List.Mem.tail _ ?_))
    (hf : Instr.findNow (.int q) (.int q kk) es.toList 0 = some (some (j, v)) := by rfl) (hg : o.guard = none := by rfl) : wpList P ops Q (o :: rest) a w := by
  refine wpList_plain hg fun K' hK => ?_
  unfold Oper.wp execOp
  simp only [ho, hm, hk, Sem.run_bind, Instr.lookup, run_underlying hT.map, Result.andThen_ok, run_getObj_mp (hst.own _ _ hmem), run_checkKey hT.key, run_findKey hT.key _ _ _ hf, Sem.run_pure]
  exact hK _ _ h
end maps

end Go.Proofs.YtoakmlopjeecoaaGreatDoor.Rd

namespace Go.Proofs.YtoakmlopjeecoaaGreatDoor.Rd
open Go Go.RowKit
set_option linter.unusedVariables false
set_option linter.unusedSimpArgs false
set_option maxRecDepth 100000

theorem tm77 : MapT Tryz.prog 77 3 76 .i64 := ⟨by kernel_rfl, by kernel_rfl⟩

/-- The map of deeds. -/
def deedM : Array MapEntry := #[⟨.int .i64 1, .func (.func 33) #[] #[], 0⟩, ⟨.int .i64 2, .func (.func 34) #[] #[], 1⟩]
theorem fpu_deeds (w0 : World) : GivesN Tryz.prog 24 #[] (fun Lg v => ∃ b, v = .map (some b) ∧ Lg = [(b, .map deedM 2)]) w0 := by
  have hst := St.start [] w0
  go_enter Tryz.func24, Tryz.ntmps24
  go_wp2_with ((first | (refine kMk 1 hst rfl rfl ?_; clear hst; intro b1 w hb1 hst) | (refine kMi hst tm77 rfl rfl ?_; clear hst; intro w hst)); try simp only [pz, pn, sz, sc])
  exact bp_t rfl rfl (by rfl) (PostN.of hst ⟨fun x hx => by simp only [List.mem_singleton] at hx; subst hx; assumption, by simp⟩ ⟨_, rfl, rfl⟩ (fun x h => h))

end Go.Proofs.YtoakmlopjeecoaaGreatDoor.Rd

namespace Go.Proofs.YtoakmlopjeecoaaGreatDoor.Rd
set_option linter.unusedVariables false

/-- A format's precision, bits, the bits of its field, its greatest exponent. -/
def fP (f : Nat) : Nat := if f = 1 then 11 else if f = 2 then 24 else if f = 3 then 53 else 113
def fB (f : Nat) : Nat := if f = 1 then 16 else if f = 2 then 32 else if f = 3 then 64 else 128
def fK (f : Nat) : Nat := if f = 1 then 5 else if f = 2 then 8 else if f = 3 then 11 else 15
def fE (f : Nat) : Nat := if f = 1 then 15 else if f = 2 then 127 else if f = 3 then 1023 else 16383
theorem fBPK (f : Nat) : fB f = fP f + fK f := by unfold fB fP fK; split <;> (try split) <;> (try split) <;> rfl
theorem fP_in (f : Nat) : 11 ≤ fP f ∧ fP f ≤ 113 := by unfold fP; split <;> (try split) <;> (try split) <;> omega
theorem fK_in (f : Nat) : 5 ≤ fK f ∧ fK f ≤ 15 := by unfold fK; split <;> (try split) <;> (try split) <;> omega
theorem fB_in (f : Nat) : 16 ≤ fB f ∧ fB f ≤ 128 := by unfold fB; split <;> (try split) <;> (try split) <;> omega
theorem fE_in (f : Nat) : 15 ≤ fE f ∧ fE f ≤ 16383 := by unfold fE; split <;> (try split) <;> (try split) <;> omega
theorem fE_pow (f : Nat) : 2 * fE f + 2 = 2 ^ fK f := by unfold fE fK; split <;> (try split) <;> (try split) <;> decide

/-- A word's sign, field, fraction, significand. -/
def wNeg (f m : Nat) : Bool := decide (2 ^ (fB f - 1) ≤ m)
def wField (f m : Nat) : Nat := m / 2 ^ (fP f - 1) % 2 ^ fK f
def wFrac (f m : Nat) : Nat := m % 2 ^ (fP f - 1)
def wSig (f m : Nat) : Nat := if wField f m = 0 then wFrac f m else wFrac f m + 2 ^ (fP f - 1)
/-- What a word without its sign stands for, in units of the least one. -/
def wV (f m : Nat) : Nat := wSig f m * 2 ^ (wField f m - 1)

theorem wField_lo (f m : Nat) (h : m < 2 ^ (fB f - 1)) : wField f m = m / 2 ^ (fP f - 1) := by
  unfold wField
  apply Nat.mod_eq_of_lt
  have e : 2 ^ (fB f - 1) = 2 ^ (fP f - 1) * 2 ^ fK f := by rw [← Nat.pow_add, fBPK]; congr 1; have := fP_in f; omega
  rw [Nat.div_lt_iff_lt_mul (Nat.pow_pos (by omega)), Nat.mul_comm, ← e]; exact h
theorem wFrac_lt (f m : Nat) : wFrac f m < 2 ^ (fP f - 1) := Nat.mod_lt _ (Nat.pow_pos (by omega))
theorem wV_parts (f m : Nat) (h : m < 2 ^ (fB f - 1)) : ∃ j s, m = j * 2 ^ (fP f - 1) + s ∧ ((j = 0 ∧ s < 2 ^ fP f) ∨ (2 ^ (fP f - 1) ≤ s ∧ s < 2 ^ fP f)) ∧ wV f m = s * 2 ^ j ∧ j = wField f m - 1 ∧ s = wSig f m := by
  have hf := wField_lo f m h
  have e : 2 ^ fP f = 2 * 2 ^ (fP f - 1) := by
    obtain ⟨p, hp⟩ : ∃ p, fP f = p + 1 := ⟨fP f - 1, by have := fP_in f; omega⟩
    rw [hp, Nat.add_sub_cancel, Nat.pow_succ]; omega
  have hd := Nat.div_add_mod m (2 ^ (fP f - 1))
  have hl := wFrac_lt f m
  refine ⟨wField f m - 1, wSig f m, ?_, ?_, rfl, rfl, rfl⟩
  · unfold wSig
    rw [hf]
    unfold wFrac at *
    generalize 2 ^ (fP f - 1) = q at *
    generalize m / q = a at *
    generalize m % q = b at *
    by_cases h0 : a = 0
    · subst h0; simp at hd ⊢; omega
    · obtain ⟨c, rfl⟩ : ∃ c, a = c + 1 := ⟨a - 1, by omega⟩
      rw [if_neg h0, Nat.add_sub_cancel, ← hd, Nat.mul_add, Nat.mul_one, Nat.mul_comm q c]; omega
  · unfold wSig
    split
    · rename_i h0; exact .inl ⟨by omega, by omega⟩
    · exact .inr ⟨by omega, by omega⟩

theorem wV_lt_of_lt (f : Nat) {m n : Nat} (hn : n < 2 ^ (fB f - 1)) (h : m < n) : wV f m < wV f n := by
  obtain ⟨j, s, rfl, h1, h2, _⟩ := wV_parts f m (by omega)
  obtain ⟨k, t, rfl, h3, h4, _⟩ := wV_parts f n hn
  rw [h2, h4]
  clear h2 h4 hn
  have e : 2 ^ fP f = 2 * 2 ^ (fP f - 1) := by
    obtain ⟨p, hp⟩ : ∃ p, fP f = p + 1 := ⟨fP f - 1, by have := fP_in f; omega⟩
    rw [hp, Nat.add_sub_cancel, Nat.pow_succ]; omega
  rw [e] at h1 h3
  have hq : 0 < 2 ^ (fP f - 1) := Nat.pow_pos (by omega)
  generalize 2 ^ (fP f - 1) = q at *
  have hpj : 0 < 2 ^ j := Nat.pow_pos (by omega)
  rcases Nat.lt_trichotomy j k with hjk | rfl | hjk
  · -- a higher field
    obtain ⟨d, rfl⟩ : ∃ d, k = j + 1 + d := ⟨k - j - 1, by omega⟩
    have h5 : q ≤ t := by omega
    have h6 : s * 2 ^ j < 2 * q * 2 ^ j := Nat.mul_lt_mul_of_pos_right (by omega) hpj
    have h7 : q * (2 * 2 ^ j) ≤ t * 2 ^ (j + 1 + d) := by
      rw [Nat.pow_add, Nat.pow_succ, Nat.mul_comm (2 ^ j) 2]
      exact Nat.mul_le_mul h5 (Nat.le_mul_of_pos_right _ (Nat.pow_pos (by omega)))
    have e2 : 2 * q * 2 ^ j = q * (2 * 2 ^ j) := by grind
    omega
  · exact Nat.mul_lt_mul_of_pos_right (by omega) hpj
  · exfalso
    obtain ⟨d, rfl⟩ : ∃ d, j = k + 1 + d := ⟨j - k - 1, by omega⟩
    have h5 : q ≤ s := by omega
    have : (k + 1 + d) * q = k * q + q + d * q := by grind
    omega
theorem wV_le_of_le (f : Nat) {m n : Nat} (hn : n < 2 ^ (fB f - 1)) (h : m ≤ n) : wV f m ≤ wV f n := by
  rcases Nat.lt_or_eq_of_le h with h | rfl
  · exact Nat.le_of_lt (wV_lt_of_lt f hn h)
  · exact Nat.le_refl _
end Go.Proofs.YtoakmlopjeecoaaGreatDoor.Rd

namespace Go.Proofs.YtoakmlopjeecoaaGreatDoor.Rd
open Go Go.RowKit
set_option linter.unusedVariables false
set_option linter.unusedSimpArgs false
set_option maxRecDepth 100000

section
variable {P : Program} {ops : Array Oper} {rest : List Oper} {Q : Exit → Act → World → Prop} {a : Act} {w w' w0 : World} {S : List Nat} {L : List (Nat × Obj)}
/-- What S leaves alone reads as it did. -/
theorem Keeps.cellX {S : List Nat} (k : Keeps S w w') {b i : Nat} {v : Value} (hb : b ∉ S) (h : w.cell? ⟨b, i, none⟩ = some v) : w'.cell? ⟨b, i, none⟩ = some v := by
  have hlt : b < w.heap.size := by
    rcases Nat.lt_or_ge b w.heap.size with h' | h'
    · exact h'
    · simp [World.cell?, Array.getElem?_eq_none h'] at h
  have e := k.block b hlt hb
  unfold World.cell? at *
  simp only at *
  rw [e]; exact h
/-- A load of a struct whose cells the world is known to hold. -/
theorem klx {o : Oper} {T : TypeId} {x : Operand} {n b f : Nat} {sub : Array Value} (hst : St w0 S L w) (hT : AggT P T n) (hc : ∀ w, St w0 S L w → ∀ (j : Nat) v, sub[j]? = some v → w.cell? ⟨b, f + j, none⟩ = some v) (ho : o.op = .load T x) (h : wpList P ops Q rest (a.put o.dst (.agg sub)) w)
    (hx : a.eval x = .pointer (some ⟨b, f, none⟩) := by rfl) (hn : sub.size = n := by rfl) (hg : o.guard = none := by rfl) : wpList P ops Q (o :: rest) a w := by
  refine wpList_plain hg fun K hK => ?_
  obtain ⟨d, hu, hd, hi⟩ := hT
  have hr := run_loadAt_mid (P := P) w b f T sub.toList d (fun j v hv => hc w hst j v (by rwa [Array.getElem?_toList] at hv)) hu (descAgg_row hd) (by rw [Array.length_toList, hn]; exact hi)
  unfold Oper.wp execOp
  simp only [ho, hx, Sem.run_bind, hr, Sem.run_pure, Result.andThen_ok]
  exact hK _ _ (by simpa using h)
end

/-- The cells of the variable known. -/
def knC : Array Value := #[.string ⟨#[]⟩, .int .i64 0, .int .i64 0, .int .i64 0,
  .string ⟨#[98, 105, 110, 97, 114, 121, 49, 54]⟩, .int .i64 16, .int .i64 11, .int .i64 5,
  .string ⟨#[98, 105, 110, 97, 114, 121, 51, 50]⟩, .int .i64 32, .int .i64 24, .int .i64 8,
  .string ⟨#[98, 105, 110, 97, 114, 121, 54, 52]⟩, .int .i64 64, .int .i64 53, .int .i64 11,
  .string ⟨#[98, 105, 110, 97, 114, 121, 49, 50, 56]⟩, .int .i64 128, .int .i64 113, .int .i64 15]
def FmtIn (w : World) : Prop := ∀ (i : Nat) v, knC[i]? = some v → w.cell? ⟨2, i, none⟩ = some v
theorem FmtIn.keep {w w' : World} {S : List Nat} (h : FmtIn w) (k : Keeps S w w') (hS : 2 ∉ S) : FmtIn w' := fun i v hi => k.cellX hS (h i v hi)
def knR (f : Nat) : Array Value := knC.extract (f * 4) (f * 4 + 4)
theorem knR_at {w : World} (h : FmtIn w) (f : Nat) (hf : f ≤ 4) (j : Nat) (v : Value) (hv : (knR f)[j]? = some v) : w.cell? ⟨2, f * 4 + j, none⟩ = some v := by
  refine h _ v ?_
  unfold knR at hv
  rw [Array.getElem?_extract] at hv
  split at hv
  · exact hv
  · cases hv

/-- A format's cells. -/
def fmC (f : Nat) : Array Value := #[.int .i64 (fB f : Nat), .int .i64 (fP f : Nat), .int .i64 (fE f : Nat), .int .i64 (1 - (fE f : Int)), .int .i64 (fK f : Nat)]
theorem fmC_size (f : Nat) : (fmC f).size = 5 := rfl
theorem fmC_one (f : Nat) : OneC (fmC f) := ⟨by kernel_rfl⟩

set_option maxHeartbeats 2000000 in
theorem format_Of (f : Nat) (h1 : 1 ≤ f) (h4 : f ≤ 4) (w0 : World) (hF : FmtIn w0) : GivesAt Tryz.prog 40 #[.int .i64 f] (.tuple #[.agg (fmC f), .bool true]) w0 := by
  have hst := St.start [] w0
  have hr := Lib.hid (fun f hf w (k : Keeps [] w0 w) => knR_at (hF.keep k (by simp)) f hf)
  clear hF
  obtain rfl | rfl | rfl | rfl : f = 1 ∨ f = 2 ∨ f = 3 ∨ f = 4 := by omega
  · have hc := Lib.hid (fun w k => hr.out 1 (by omega) w k)
    rw [show knR 1 = #[.string ⟨#[98, 105, 110, 97, 114, 121, 49, 54]⟩, .int .i64 16, .int .i64 11, .int .i64 5] from rfl] at hc
    rw [show fmC 1 = #[.int .i64 16, .int .i64 11, .int .i64 15, .int .i64 (-14), .int .i64 5] by kernel_rfl, show ((1 : Nat) : Int) = 1 from rfl]
    go_enter Tryz.func40, Tryz.ntmps40
    go_wp2_with ((first | (refine klx hst (AggT.of (by kernel_rfl)) (fun w hst => hc.out w hst.keeps) rfl ?_) | (refine ka 2 hst tz104 rfl rfl ?_; clear hst; intro b2 w hb2 hst) | (refine kt hst ta104 rfl rfl ?_; clear hst; intro w hst) | (refine ka 4 hst tz125 rfl rfl ?_; clear hst; intro b4 w hb4 hst) | (refine kt hst ta125 rfl rfl ?_; clear hst; intro w hst) | (refine kc hst tc3 rfl ?_) | (refine kB (tb104_01234 _ _ _ _ _) rfl ?_)); try simp only [pz, pn, sz, sc])
    refine bp_ct rfl rfl (la hst ta104) (by rfl) ⟨?_, hst.keeps⟩
    rfl
  · have hc := Lib.hid (fun w k => hr.out 2 (by omega) w k)
    rw [show knR 2 = #[.string ⟨#[98, 105, 110, 97, 114, 121, 51, 50]⟩, .int .i64 32, .int .i64 24, .int .i64 8] from rfl] at hc
    rw [show fmC 2 = #[.int .i64 32, .int .i64 24, .int .i64 127, .int .i64 (-126), .int .i64 8] by kernel_rfl, show ((2 : Nat) : Int) = 2 from rfl]
    go_enter Tryz.func40, Tryz.ntmps40
    go_wp2_with ((first | (refine klx hst (AggT.of (by kernel_rfl)) (fun w hst => hc.out w hst.keeps) rfl ?_) | (refine ka 2 hst tz104 rfl rfl ?_; clear hst; intro b2 w hb2 hst) | (refine kt hst ta104 rfl rfl ?_; clear hst; intro w hst) | (refine ka 4 hst tz125 rfl rfl ?_; clear hst; intro b4 w hb4 hst) | (refine kt hst ta125 rfl rfl ?_; clear hst; intro w hst) | (refine kc hst tc3 rfl ?_) | (refine kB (tb104_01234 _ _ _ _ _) rfl ?_)); try simp only [pz, pn, sz, sc])
    refine bp_ct rfl rfl (la hst ta104) (by rfl) ⟨?_, hst.keeps⟩
    rfl
  · have hc := Lib.hid (fun w k => hr.out 3 (by omega) w k)
    rw [show knR 3 = #[.string ⟨#[98, 105, 110, 97, 114, 121, 54, 52]⟩, .int .i64 64, .int .i64 53, .int .i64 11] from rfl] at hc
    rw [show fmC 3 = #[.int .i64 64, .int .i64 53, .int .i64 1023, .int .i64 (-1022), .int .i64 11] by kernel_rfl, show ((3 : Nat) : Int) = 3 from rfl]
    go_enter Tryz.func40, Tryz.ntmps40
    go_wp2_with ((first | (refine klx hst (AggT.of (by kernel_rfl)) (fun w hst => hc.out w hst.keeps) rfl ?_) | (refine ka 2 hst tz104 rfl rfl ?_; clear hst; intro b2 w hb2 hst) | (refine kt hst ta104 rfl rfl ?_; clear hst; intro w hst) | (refine ka 4 hst tz125 rfl rfl ?_; clear hst; intro b4 w hb4 hst) | (refine kt hst ta125 rfl rfl ?_; clear hst; intro w hst) | (refine kc hst tc3 rfl ?_) | (refine kB (tb104_01234 _ _ _ _ _) rfl ?_)); try simp only [pz, pn, sz, sc])
    refine bp_ct rfl rfl (la hst ta104) (by rfl) ⟨?_, hst.keeps⟩
    rfl
  · have hc := Lib.hid (fun w k => hr.out 4 (by omega) w k)
    rw [show knR 4 = #[.string ⟨#[98, 105, 110, 97, 114, 121, 49, 50, 56]⟩, .int .i64 128, .int .i64 113, .int .i64 15] from rfl] at hc
    rw [show fmC 4 = #[.int .i64 128, .int .i64 113, .int .i64 16383, .int .i64 (-16382), .int .i64 15] by kernel_rfl, show ((4 : Nat) : Int) = 4 from rfl]
    go_enter Tryz.func40, Tryz.ntmps40
    go_wp2_with ((first | (refine klx hst (AggT.of (by kernel_rfl)) (fun w hst => hc.out w hst.keeps) rfl ?_) | (refine ka 2 hst tz104 rfl rfl ?_; clear hst; intro b2 w hb2 hst) | (refine kt hst ta104 rfl rfl ?_; clear hst; intro w hst) | (refine ka 4 hst tz125 rfl rfl ?_; clear hst; intro b4 w hb4 hst) | (refine kt hst ta125 rfl rfl ?_; clear hst; intro w hst) | (refine kc hst tc3 rfl ?_) | (refine kB (tb104_01234 _ _ _ _ _) rfl ?_)); try simp only [pz, pn, sz, sc])
    refine bp_ct rfl rfl (la hst ta104) (by rfl) ⟨?_, hst.keeps⟩
    rfl

set_option maxHeartbeats 1000000 in
theorem format_Fits (f : Nat) (h1 : 1 ≤ f) (h4 : f ≤ 4) (m : Nat) (hm : m < M2) (w0 : World) (hF : FmtIn w0) : GivesAt Tryz.prog 30 #[.int .i64 f, Wd m] (.bool (decide (m < 2 ^ fB f))) w0 := by
  have hst := St.start [] w0
  have hk := Lib.hid (fun w (k : Keeps [] w0 w) => hF.keep k (by simp))
  have hof := fun w h => format_Of f h1 h4 w h
  have hfr := wide_From m hm
  have hmM : m < M := Nat.lt_of_lt_of_le hm (by rw [M_eq]; exact Nat.pow_le_pow_right B_pos (by omega))
  have hlen := wide_Len m hmM
  have e : decide (m < 2 ^ fB f) = decide (bl m ≤ fB f) := by
    have := @bl_le m (fB f)
    by_cases h : m < 2 ^ fB f
    · rw [decide_eq_true h, decide_eq_true (this.2 h)]
    · rw [decide_eq_false h, decide_eq_false (fun h' => h (this.1 h'))]
  rw [e]
  clear e hF h1 h4 hmM hm
  have z1 := fmC_size f
  have z2 := fmC_one f
  have hg0 : (fmC f)[0]? = some (.int .i64 (fB f : Nat)) := rfl
  generalize fmC f = cs at *
  generalize fB f = bb at *
  generalize bl m = k at *
  go_enter Tryz.func30, Tryz.ntmps30
  go_wp2_with ((first | (refine kg gf40 hst (fun w hst => hof w (hk.out w hst.keeps)) rfl rfl rfl rfl ?_; clear hst; intro w hst) | (refine kb 3 hst rfl rfl ?_; clear hst; intro b3 w hb3 hst) | (refine ka 5 hst tz104 rfl rfl ?_; clear hst; intro b5 w hb5 hst) | (refine kt hst ta104 rfl rfl ?_; clear hst; intro w hst)); try simp only [pz, pn, sz, sc])
  refine wp_region_T 10  hst (by kernel_rfl) ?_; clear hst; intro w hst; (try simp only [List.length_cons, List.length_nil, Nat.reduceAdd, Array.replicate_succ, Array.replicate_zero, List.push_toArray, List.nil_append, List.cons_append])
  refine r0 0 ?_; simp only [pz, pn, sz, sc]
  refine r0 1 ?_; simp only [pz, pn, sz, sc]
  refine r0 5 ?_; simp only [pz, pn, sz, sc]
  refine rl 2 rfl ?_ (by first | exact ylA ta24 | exact ylM ta24); simp only [pz, pn, sz, sc]
  refine rl 6 rfl ?_ (ylC tc3); simp only [pz, pn, sz, sc]
  refine r1 3 ?_; (try refine wl_guard (by rfl) ?_); (refine kf gf42 hst (hfr) rfl rfl rfl rfl ?_; clear hst; intro w hst); (try simp only [pz, pn, sz, sc]); refine re ?_
  refine r1 4 ?_; (try refine wl_guard (by rfl) ?_); (refine kf gf41 hst (hlen) rfl rfl rfl rfl ?_; clear hst; intro w hst); (try simp only [pz, pn, sz, sc]); refine re ?_
  refine r0 7 ?_; simp only [pz, pn, sz, sc]
  refine r0 8 ?_; simp only [pz, pn, sz, sc]
  refine r0 9 ?_; simp only [pz, pn, sz, sc]
  refine rd_ ?_
  go_wp2_with fail
  refine bp_t rfl rfl (by rfl) ⟨?_, hst.keeps⟩
  rfl

end Go.Proofs.YtoakmlopjeecoaaGreatDoor.Rd

namespace Go.Proofs.YtoakmlopjeecoaaGreatDoor.Rd
set_option linter.unusedVariables false

/-- What is cut off of r with its b lowest digits, where s says that there is more behind: 0 none, 1 below a half, 2 a half, 3 above. -/
def restN (r b : Nat) (s : Bool) : Nat :=
  if b = 0 then (if s then 1 else 0)
  else if r % 2 ^ b = 0 ∧ s = false then 0 else if r % 2 ^ b < 2 ^ (b - 1) then 1 else if r % 2 ^ b = 2 ^ (b - 1) ∧ s = false then 2 else 3
/-- r halves of a place: how many places, what is left. -/
theorem half_split (r b : Nat) : r / 2 ^ b = 2 * (r / 2 ^ (b + 1)) + r % 2 ^ (b + 1) / 2 ^ b ∧ r % 2 ^ (b + 1) = r % 2 ^ (b + 1) / 2 ^ b * 2 ^ b + r % 2 ^ b ∧ r % 2 ^ (b + 1) / 2 ^ b ≤ 1 := by
  have hp : 0 < 2 ^ b := Nat.pow_pos (by omega)
  have e : 2 ^ (b + 1) = 2 ^ b * 2 := Nat.pow_succ ..
  have h1 : r % 2 ^ (b + 1) / 2 ^ b = r / 2 ^ b % 2 := by rw [e, Nat.mod_mul_right_div_self]
  have h2 : r % 2 ^ (b + 1) % 2 ^ b = r % 2 ^ b := by rw [e]; exact Nat.mod_mul_right_mod ..
  have h3 := Nat.div_add_mod (r % 2 ^ (b + 1)) (2 ^ b)
  have h4 := Nat.div_add_mod (r / 2 ^ b) 2
  have h5 : r / 2 ^ (b + 1) = r / 2 ^ b / 2 := by rw [e, Nat.div_div_eq_div_mul]
  rw [h2, Nat.mul_comm] at h3
  rw [h5, h1]
  rw [h1] at h3
  exact ⟨by omega, h3.symm, by omega⟩

/-- The middle of a place and the next one, held against the number: below 0: the middle is below. -/
def midC (r b : Nat) (s : Bool) : Int :=
  if 2 * (r / 2 ^ (b + 1)) + 1 < r / 2 ^ b then -1 else if r / 2 ^ b < 2 * (r / 2 ^ (b + 1)) + 1 then 1 else if r % 2 ^ b = 0 ∧ s = false then 0 else -1
theorem rest_mid (r b : Nat) (s : Bool) : (restN r (b + 1) s : Int) = if r % 2 ^ (b + 1) = 0 ∧ s = false then 0 else 2 - midC r b s := by
  obtain ⟨h1, h2, h3⟩ := half_split r b
  have hm := Nat.mod_lt r (show 0 < 2 ^ b from Nat.pow_pos (by omega))
  unfold restN midC
  rw [if_neg (by omega), Nat.add_sub_cancel]
  rw [h1]
  generalize r % 2 ^ (b + 1) / 2 ^ b = h at *
  generalize r / 2 ^ (b + 1) = q at *
  rw [h2]
  generalize r % 2 ^ b = t at *
  generalize 2 ^ b = k at *
  have hh : h = 0 ∨ h = 1 := by omega
  rcases hh with rfl | rfl
  · cases s <;> simp <;> (repeat' split) <;> (try omega) <;> simp_all
  · cases s <;> simp <;> (repeat' split) <;> (try omega) <;> simp_all

theorem bl_range {n k : Nat} (h1 : 2 ^ k ≤ n) (h2 : n < 2 ^ (k + 1)) : bl n = k + 1 := by
  have a := bl_le.2 h2
  rcases Nat.lt_or_ge (bl n) (k + 1) with h | h
  · have := bl_le.1 (show bl n ≤ k by omega); omega
  · omega
theorem bl_lo {n : Nat} (h : n ≠ 0) : 2 ^ (bl n - 1) ≤ n := (bl_spec n).2 h
end Go.Proofs.YtoakmlopjeecoaaGreatDoor.Rd
