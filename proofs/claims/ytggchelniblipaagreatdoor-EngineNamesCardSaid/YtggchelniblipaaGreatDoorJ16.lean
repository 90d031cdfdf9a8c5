/- What newtonroot's three, seed, reciprocal, guess, may, Root answer. -/
import Derived.Test.YtggchelniblipaaGreatDoorJ15
namespace Go.Proofs.YtggchelniblipaaGreatDoor.Rd
open Go Go.RowKit
set_option linter.unusedVariables false
set_option linter.unusedSimpArgs false
set_option maxRecDepth 100000

set_option maxHeartbeats 8000000 in
theorem fix_told (g t m v : Nat) (h1 : g ≤ t + 1) (h2 : t ≤ g + 1) (hm : 2 ≤ m) (hm2 : m ≤ 100) (htM : t + 1 < M) (f f2 : FuncId) (hf : GoF Tryz.prog f) (hf2 : GoF Tryz.prog f2) (cap cap2 : Array Value) (w0 : World)
    (ha : ∀ q w, Keeps [] w0 w → q ≤ t + 1 → GivesAt Tryz.prog f ([W q] ++ cap.toList).toArray (.bool (decide (t < q))) w)
    (hl : ∀ w, Keeps [] w0 w → GivesAt Tryz.prog f2 ([W t] ++ cap2.toList).toArray (W v) w) :
    GivesAt Tryz.prog 163 #[W g, .int .i64 m, .func (.func f) #[] cap, .func (.func f2) #[] cap2] (.tuple #[W t, W v, .int .i64 (off g t : Nat), .int .i64 0]) w0 := by
  have hst := St.start [] w0
  have hr := fun w (k : Keeps [] w0 w) => fix_right g t m h1 h2 hm hm2 htM f hf cap w (fun q w' k' hq => ha q w' (k.trans k' (fun x hx _ => hx)) hq)
  clear ha h1 h2 hm hm2 htM
  generalize off g t = d at *
  obtain ⟨m', hm'⟩ : ∃ m' : Int, m' = (m : Int) := ⟨m, rfl⟩
  rw [← hm'] at hr ⊢
  clear hm'
  go_enter Tryz.func163, Tryz.ntmps163
  go_wp2_with ((first | (refine kg gf169 hst (fun w hst => hr w hst.keeps) rfl rfl rfl rfl ?_; clear hst; intro w hst) | (refine kb 4 hst rfl rfl ?_; clear hst; intro b4 w hb4 hst) | (refine ka 8 hst tz24 rfl rfl ?_; clear hst; intro b8 w hb8 hst) | (refine ka 9 hst tz24 rfl rfl ?_; clear hst; intro b9 w hb9 hst) | (refine kl hst ta24 rfl ?_) | (refine klm hst ta24 rfl ?_) | (refine ka 12 hst tz24 rfl rfl ?_; clear hst; intro b12 w hb12 hst) | (refine kt hst ta24 rfl rfl ?_; clear hst; intro w hst) | (refine ktm hst ta24 rfl rfl ?_; clear hst; intro w hst)); try simp only [pz, pn, sz, sc])
  refine wp_region_TV 9 [(b12, .cells (wc 8 t) 24)] hst (by kernel_rfl) ?_; clear hst; intro w hst; (try dsimp only [List.length_cons, List.length_nil]); (try simp only [List.length_cons, List.length_nil, Nat.reduceAdd, Array.replicate_succ, Array.replicate_zero, List.push_toArray, List.nil_append, List.cons_append])
  refine r0 1 ?_; simp only [pz, pn, sz, sc]
  refine r0 4 ?_; simp only [pz, pn, sz, sc]
  refine rl 0 rfl ?_ (by first | exact ylA ta24 | exact ylM ta24); simp only [pz, pn, sz, sc]
  refine rl 2 rfl ?_ (by first | exact ylA ta24 | exact ylM ta24); simp only [pz, pn, sz, sc]
  refine r1 3 ?_; (first | (refine kg hf2 hst (fun w hst => hl w hst.keeps) rfl rfl rfl rfl ?_; clear hst; intro w hst) | (refine kp ?_)); (try simp only [pz, pn, sz, sc]); refine re ?_
  refine r1 5 ?_; (first | (refine kt hst ta24 rfl rfl ?_; clear hst; intro w hst) | (refine ktm hst ta24 rfl rfl ?_; clear hst; intro w hst)); (try simp only [pz, pn, sz, sc]); refine re ?_
  refine r1 6 ?_; (first | (refine kt hst ta24 rfl rfl ?_; clear hst; intro w hst) | (refine ktm hst ta24 rfl rfl ?_; clear hst; intro w hst)); (try simp only [pz, pn, sz, sc]); refine re ?_
  refine r0 7 ?_; simp only [pz, pn, sz, sc]
  refine r0 8 ?_; simp only [pz, pn, sz, sc]
  refine rd_ ?_
  go_wp2_with ((first | (refine kb 4 hst rfl rfl ?_; clear hst; intro b4 w hb4 hst) | (refine ka 8 hst tz24 rfl rfl ?_; clear hst; intro b8 w hb8 hst) | (refine ka 9 hst tz24 rfl rfl ?_; clear hst; intro b9 w hb9 hst) | (refine kl hst ta24 rfl ?_) | (refine klm hst ta24 rfl ?_) | (refine ka 12 hst tz24 rfl rfl ?_; clear hst; intro b12 w hb12 hst) | (refine kt hst ta24 rfl rfl ?_; clear hst; intro w hst) | (refine ktm hst ta24 rfl rfl ?_; clear hst; intro w hst)); try simp only [pz, pn, sz, sc])
  refine bp_cctt rfl rfl (la hst ta24) (la hst ta24) (by rfl) (by rfl) ⟨?_, hst.keeps⟩
  rfl

theorem root_at {n t q : Nat} (h : IsRoot n t) : n < q * q ↔ t < q := by
  constructor
  · intro h1
    apply Nat.lt_of_not_le
    intro h2
    have := Nat.mul_le_mul h2 h2
    have := h.1
    omega
  · intro h1
    have := Nat.mul_le_mul (show t + 1 ≤ q from h1) (show t + 1 ≤ q from h1)
    have := h.2
    omega

theorem fix_Root_1 (q : Nat) (hq : q < M) (h : q * q < M) : Gives Tryz.prog 186 #[W q] (W (q * q)) := by
  intro w0
  have hst := St.start [] w0
  have h1 := prod_Square q hq
  rw [Nat.mod_eq_of_lt h] at h1
  clear h
  generalize q * q = s at *
  go_enter Tryz.func186, Tryz.ntmps186
  go_wp2_with ((first | (refine kf gf127 hst (h1) rfl rfl rfl rfl ?_; clear hst; intro w hst) | (refine kb 1 hst rfl rfl ?_; clear hst; intro b1 w hb1 hst) | (refine ka 2 hst tz24 rfl rfl ?_; clear hst; intro b2 w hb2 hst) | (refine kl hst ta24 rfl ?_) | (refine klm hst ta24 rfl ?_) | (refine ka 3 hst tz24 rfl rfl ?_; clear hst; intro b3 w hb3 hst) | (refine kt hst ta24 rfl rfl ?_; clear hst; intro w hst) | (refine ktm hst ta24 rfl rfl ?_; clear hst; intro w hst)); try simp only [pz, pn, sz, sc])
  refine bp_c rfl rfl (la hst ta24) ⟨?_, hst.keeps⟩
  rfl

set_option maxHeartbeats 1000000 in
theorem fix_Root_2 (n t q : Nat) (hn : n < M) (hr : IsRoot n t) (hq : q < M) (h : q * q < M) (b1 b2 : Nat) (hne : b1 ≠ b2) (E1 E2 : TypeId) (w0 : World) (h1 : w0.heap[b1]? = some (.cells #[.func (.func 186) #[] #[]] E1)) (h2 : w0.heap[b2]? = some (.cells (wc 8 n) E2)) :
    GivesAt Tryz.prog 187 #[W q, .pointer (some ⟨b1, 0, none⟩), .pointer (some ⟨b2, 0, none⟩)] (.bool (decide (t < q))) w0 := by
  have hst : St w0 [] [(b1, .cells #[.func (.func 186) #[] #[]] E1), (b2, .cells (wc 8 n) E2)] w0 := ((St.start [] w0).add h2 (by simp)).add h1 (by simpa using hne)
  have hsq := fix_Root_1 q hq h
  have hc := wide_Cmp (q * q) n h hn
  obtain ⟨c, hc'⟩ : ∃ c, cmp (q * q) n = c := ⟨_, rfl⟩
  rw [hc'] at hc
  have hd : decide (t < q) = decide (0 < c) := by
    have := root_at (q := q) hr
    rw [← hc', ← decide_eq_decide.2 this]
    unfold cmp
    by_cases h1 : q * q < n
    · rw [if_pos h1, decide_eq_false (by omega)]; rfl
    · by_cases h2 : n < q * q
      · rw [if_neg h1, if_pos h2, decide_eq_true h2]; rfl
      · rw [if_neg h1, if_neg h2, decide_eq_false h2]; rfl
  rw [hd]
  clear hd hc' hr h h1 h2 hn
  generalize q * q = s at *
  have hgf := gf186
  go_enter Tryz.func187, Tryz.ntmps187
  go_wp2_with ((first | (refine kb 3 hst rfl rfl ?_; clear hst; intro b3 w hb3 hst) | (refine kc hst tc209 rfl ?_) | (refine kl hst ta24 rfl ?_) | (refine klm hst ta24 rfl ?_)); try simp only [pz, pn, sz, sc])
  refine wp_region_T 7  hst (by kernel_rfl) ?_; clear hst; intro w hst; (try dsimp only [List.length_cons, List.length_nil]); (try simp only [List.length_cons, List.length_nil, Nat.reduceAdd, Array.replicate_succ, Array.replicate_zero, List.push_toArray, List.nil_append, List.cons_append])
  refine rl 0 rfl ?_ (ylC tc209); simp only [pz, pn, sz, sc]
  refine rl 1 rfl ?_ (by first | exact ylA ta24 | exact ylM ta24); simp only [pz, pn, sz, sc]
  refine rl 3 rfl ?_ (by first | exact ylA ta24 | exact ylM ta24); simp only [pz, pn, sz, sc]
  refine r1 2 ?_; (first | (refine kf hgf hst (hsq) rfl rfl rfl rfl ?_; clear hst; intro w hst) | (refine kf gf93 hst (hc) rfl rfl rfl rfl ?_; clear hst; intro w hst) | (refine kp ?_)); (try simp only [pz, pn, sz, sc]); refine re ?_
  refine r1 4 ?_; (first | (refine kf hgf hst (hsq) rfl rfl rfl rfl ?_; clear hst; intro w hst) | (refine kf gf93 hst (hc) rfl rfl rfl rfl ?_; clear hst; intro w hst) | (refine kp ?_)); (try simp only [pz, pn, sz, sc]); refine re ?_
  refine r0 5 ?_; simp only [pz, pn, sz, sc]
  refine r0 6 ?_; simp only [pz, pn, sz, sc]
  refine rd_ ?_
  go_wp2_with ((first | (refine kb 3 hst rfl rfl ?_; clear hst; intro b3 w hb3 hst) | (refine kc hst tc209 rfl ?_) | (refine kl hst ta24 rfl ?_) | (refine klm hst ta24 rfl ?_)); try simp only [pz, pn, sz, sc])
  refine bp_t rfl rfl (by rfl) ⟨?_, hst.keeps⟩
  rfl

set_option maxHeartbeats 1000000 in
theorem fix_Root_3 (n t : Nat) (hn : n < M) (ht : t < M) (h : t * t ≤ n) (b1 b2 : Nat) (hne : b1 ≠ b2) (E1 E2 : TypeId) (w0 : World) (h1 : w0.heap[b1]? = some (.cells #[.func (.func 186) #[] #[]] E1)) (h2 : w0.heap[b2]? = some (.cells (wc 8 n) E2)) :
    GivesAt Tryz.prog 188 #[W t, .pointer (some ⟨b2, 0, none⟩), .pointer (some ⟨b1, 0, none⟩)] (W (n - t * t)) w0 := by
  have hst : St w0 [] [(b1, .cells #[.func (.func 186) #[] #[]] E1), (b2, .cells (wc 8 n) E2)] w0 := ((St.start [] w0).add h2 (by simp)).add h1 (by simpa using hne)
  have hsq := fix_Root_1 t ht (by omega)
  have hwo := fix_without n (t * t) hn h
  clear h h1 h2 hn
  generalize n - t * t = r at *
  generalize t * t = s at *
  have hgf := gf186
  go_enter Tryz.func188, Tryz.ntmps188
  go_wp2_with ((first | (refine kb 3 hst rfl rfl ?_; clear hst; intro b3 w hb3 hst) | (refine ka 4 hst tz24 rfl rfl ?_; clear hst; intro b4 w hb4 hst) | (refine kl hst ta24 rfl ?_) | (refine klm hst ta24 rfl ?_) | (refine kc hst tc209 rfl ?_) | (refine kt hst ta24 rfl rfl ?_; clear hst; intro w hst) | (refine ktm hst ta24 rfl rfl ?_; clear hst; intro w hst)); try simp only [pz, pn, sz, sc])
  refine wp_region_T 5  hst (by kernel_rfl) ?_; clear hst; intro w hst; (try dsimp only [List.length_cons, List.length_nil]); (try simp only [List.length_cons, List.length_nil, Nat.reduceAdd, Array.replicate_succ, Array.replicate_zero, List.push_toArray, List.nil_append, List.cons_append])
  refine rl 0 rfl ?_ (by first | exact ylA ta24 | exact ylM ta24); simp only [pz, pn, sz, sc]
  refine rl 1 rfl ?_ (ylC tc209); simp only [pz, pn, sz, sc]
  refine rl 2 rfl ?_ (by first | exact ylA ta24 | exact ylM ta24); simp only [pz, pn, sz, sc]
  refine r1 3 ?_; (first | (refine kf hgf hst (hsq) rfl rfl rfl rfl ?_; clear hst; intro w hst) | (refine kf gf166 hst (hwo) rfl rfl rfl rfl ?_; clear hst; intro w hst) | (refine kp ?_)); (try simp only [pz, pn, sz, sc]); refine re ?_
  refine r1 4 ?_; (first | (refine kf hgf hst (hsq) rfl rfl rfl rfl ?_; clear hst; intro w hst) | (refine kf gf166 hst (hwo) rfl rfl rfl rfl ?_; clear hst; intro w hst) | (refine kp ?_)); (try simp only [pz, pn, sz, sc]); refine re ?_
  refine r1 5 ?_; (first | (refine kt hst ta24 rfl rfl ?_; clear hst; intro w hst) | (refine ktm hst ta24 rfl rfl ?_; clear hst; intro w hst)); (try simp only [pz, pn, sz, sc]); refine re ?_
  refine rd_ ?_
  go_wp2_with ((first | (refine kb 3 hst rfl rfl ?_; clear hst; intro b3 w hb3 hst) | (refine ka 4 hst tz24 rfl rfl ?_; clear hst; intro b4 w hb4 hst) | (refine kl hst ta24 rfl ?_) | (refine klm hst ta24 rfl ?_) | (refine kc hst tc209 rfl ?_) | (refine kt hst ta24 rfl rfl ?_; clear hst; intro w hst) | (refine ktm hst ta24 rfl rfl ?_; clear hst; intro w hst)); try simp only [pz, pn, sz, sc])
  refine bp_c rfl rfl (la hst ta24) ⟨?_, hst.keeps⟩
  rfl

set_option maxHeartbeats 8000000 in
theorem fix_Root (n g m : Nat) (hn : n < 2 ^ 256) (h1 : g ≤ isqrt n + 1) (h2 : isqrt n ≤ g + 1) (hm : 2 ≤ m) (hm2 : m ≤ 100) : Gives Tryz.prog 184 #[W n, W g, .int .i64 m] (.tuple #[W (isqrt n), W (n - isqrt n * isqrt n), .int .i64 (off g (isqrt n) : Nat), .int .i64 0]) := by
  intro w0
  have hst := St.start [] w0
  have hnM : n < M := Nat.lt_trans hn (small_M (by decide))
  have hr := (isqrt_spec (n := n) (by rw [four_128]; exact hn))
  have htM : isqrt n + 2 < M := small_M (by have := hr.2; omega)
  have hgM : g < M := by omega
  have hlen1 := wide_Len n hnM
  have hlen2 := wide_Len g hgM
  have l1 : bl n ≤ 256 := bl_le.2 hn
  have l2 : bl g ≤ 200 := bl_le.2 (Nat.lt_of_le_of_lt h1 (Nat.lt_of_le_of_lt hr.2 (by decide)))
  have hq2 : ∀ q, q ≤ isqrt n + 1 → q * q < M := fun q hq => by
    have : q ≤ 2 ^ 128 := by have := hr.2; omega
    exact Nat.lt_of_le_of_lt (Nat.mul_le_mul this this) (small_M (by decide))
  have k2 := fun (b1 b2 : Nat) (hne : b1 ≠ b2) q (hq : q ≤ isqrt n + 1) E1 E2 w => fix_Root_2 n (isqrt n) q hnM hr.1 (by omega) (hq2 q hq) b1 b2 hne E1 E2 w
  have k3 := fun (b1 b2 : Nat) (hne : b1 ≠ b2) E1 E2 w => fix_Root_3 n (isqrt n) hnM (by omega) hr.1.1 b1 b2 hne E1 E2 w
  have k4 := fun (b1 b2 : Nat) (hne : b1 ≠ b2) E1 E2 (w : World) (q1 : w.heap[b1]? = some (.cells #[.func (.func 186) #[] #[]] E1)) (q2 : w.heap[b2]? = some (.cells (wc 8 n) E2)) =>
    fix_told g (isqrt n) m (n - isqrt n * isqrt n) h1 h2 hm hm2 (by omega) 187 188 gf187 gf188 #[.pointer (some ⟨b1, 0, none⟩), .pointer (some ⟨b2, 0, none⟩)] #[.pointer (some ⟨b2, 0, none⟩), .pointer (some ⟨b1, 0, none⟩)] w
      (fun q w' k hq => k2 b1 b2 hne q hq E1 E2 w' (k.at q1) (k.at q2)) (fun w' k => k3 b1 b2 hne E1 E2 w' (k.at q1) (k.at q2))
  clear k2 k3
  obtain ⟨m', hm', hm3, hm4⟩ : ∃ m' : Int, m' = (m : Int) ∧ 2 ≤ m' ∧ m' ≤ 100 := ⟨m, rfl, by omega, by omega⟩
  clear hq2 hr htM h1 h2 hm hm2
  generalize n - isqrt n * isqrt n = r at *
  generalize isqrt n = t at *
  generalize off g t = d at *
  rw [← hm'] at k4 ⊢
  clear hm'
  generalize bl n = x1 at *
  generalize bl g = x2 at *
  have Q1 : ¬ ((256 : Int) < (x1 : Int)) := by omega
  have Q2 : ¬ ((200 : Int) < (x2 : Int)) := by omega
  have Q3 : ¬ m' < 0 := by omega
  have Q4 : ¬ 100 < m' := by omega
  go_enter Tryz.func184, Tryz.ntmps184
  go_wp2_with ((first | (refine kf gf92 hst (hlen1) rfl rfl rfl rfl ?_; clear hst; intro w hst) | (refine kf gf92 hst (hlen2) rfl rfl rfl rfl ?_; clear hst; intro w hst) | (refine kg gf163 hst (fun w hst => k4 b10 b3 (by have q := hst.nodup; simp only [List.map_cons, List.map_nil, List.nodup_cons, List.mem_cons, List.not_mem_nil, or_false, not_or] at q; omega) _ _ w (hst.own _ _ (by repeat (first | exact List.Mem.head _ | refine List.Mem.tail _ ?_))) (hst.own _ _ (by repeat (first | exact List.Mem.head _ | refine List.Mem.tail _ ?_)))) rfl rfl rfl rfl ?_; clear hst; intro w hst) | (refine wl_guard (by rfl) ?_) | (refine kb 3 hst rfl rfl ?_; clear hst; intro b3 w hb3 hst) | (refine kb 4 hst rfl rfl ?_; clear hst; intro b4 w hb4 hst) | (refine ka 6 hst tz24 rfl rfl ?_; clear hst; intro b6 w hb6 hst) | (refine ka 7 hst tz24 rfl rfl ?_; clear hst; intro b7 w hb7 hst) | (refine kt hst ta24 rfl rfl ?_; clear hst; intro w hst) | (refine ktm hst ta24 rfl rfl ?_; clear hst; intro w hst) | (refine kl hst ta24 rfl ?_) | (refine klm hst ta24 rfl ?_) | (refine ka 10 hst tz209 rfl rfl ?_; clear hst; intro b10 w hb10 hst) | (refine ks hst tc209 rfl rfl ?_; clear hst; intro w hst)); try simp only [pz, pn, sz, sc])
  refine bp_cctt rfl rfl (la hst ta24) (la hst ta24) (by rfl) (by rfl) ⟨?_, hst.keeps⟩
  rfl

end Go.Proofs.YtggchelniblipaaGreatDoor.Rd

namespace Go.Proofs.YtggchelniblipaaGreatDoor.Rd
open Go Go.RowKit
set_option linter.unusedVariables false
set_option linter.unusedSimpArgs false
set_option maxRecDepth 100000

theorem sum2_of (x y : Nat) (hx : x < M) (hy : y < M) (hs : x + y < M) : ∀ b w, w.heap[b]? = some (.cells (wcs [x, y]) 24 (0, 0)) → GivesAt Tryz.prog 87 #[.slice (some ⟨b, 0, none⟩) 2 2] (W (x + y)) w := fun b w h => by
  have := prod_Sum [x, y] b 2 24 (0, 0) (by intro z hz; simp at hz; rcases hz with rfl | rfl <;> assumption) (by simp) w h
  rwa [show [x, y].sum % M = x + y by rw [show [x, y].sum = x + y by simp, Nat.mod_eq_of_lt hs]] at this

set_option maxHeartbeats 4000000 in
theorem nroot_three (a : Nat) (ha : a ≤ 3 * R) : Gives Tryz.prog 190 #[W a] (W (3 * R - a)) := by
  intro w0
  have hst := St.start [] w0
  have hR3 : 3 * R < M := small_M (by decide)
  have p1 := wide_Power 161
  rw [show pow2 161 = 2 * R by decide] at p1
  have p2 := wide_Power 160
  rw [show pow2 160 = R by decide] at p2
  have hs := sum2_of (2 * R) R (by omega) (by omega) (by omega)
  have hsub := wide_Sub (2 * R + R) a (by omega) (by omega)
  rw [show (2 * R + R + M - a) % M = 3 * R - a by rw [show 2 * R + R + M - a = 3 * R - a + M by omega, Nat.add_mod_right, Nat.mod_eq_of_lt (by omega)]] at hsub
  generalize 3 * R - a = z at *
  generalize 2 * R + R = x1 at *
  generalize 2 * R = x2 at *
  generalize R = x3 at *
  clear ha hR3
  go_enter Tryz.func190, Tryz.ntmps190
  go_wp2_with ((first | (refine kb 1 hst rfl rfl ?_; clear hst; intro b1 w hb1 hst) | (refine ka 2 hst tz24 rfl rfl ?_; clear hst; intro b2 w hb2 hst) | (refine kS 8 hst ts165_ (tw24_2 _ _) rfl rfl ?_; clear hst; intro b8 w hb8 hst) | (refine kl hst ta24 rfl ?_) | (refine klm hst ta24 rfl ?_) | (refine ka 3 hst tz24 rfl rfl ?_; clear hst; intro b3 w hb3 hst) | (refine kt hst ta24 rfl rfl ?_; clear hst; intro w hst) | (refine ktm hst ta24 rfl rfl ?_; clear hst; intro w hst)); try simp only [pz, pn, sz, sc])
  refine wp_region_T 10  hst (by kernel_rfl) ?_; clear hst; intro w hst; (try dsimp only [List.length_cons, List.length_nil]); (try simp only [List.length_cons, List.length_nil, Nat.reduceAdd, Array.replicate_succ, Array.replicate_zero, List.push_toArray, List.nil_append, List.cons_append])
  refine rl 4 rfl ?_ (by first | exact ylA ta24 | exact ylM ta24); simp only [pz, pn, sz, sc]
  refine r2 0 9 ?_ ?_
  (first | (refine kf gf97 hst (p1) rfl rfl rfl rfl ?_; clear hst; intro w hst) | (refine kf gf97 hst (p2) rfl rfl rfl rfl ?_; clear hst; intro w hst) | (refine kg gf87 hst (fun w hst => hs _ w (hst.own _ _ (by simp))) rfl rfl rfl rfl ?_; clear hst; intro w hst) | (refine kf gf95 hst (hsub) rfl rfl rfl rfl ?_; clear hst; intro w hst) | (refine kp ?_)); (try simp only [pz, pn, sz, sc]); refine re ?_
  refine r2 1 9 ?_ ?_
  (first | (refine kf gf97 hst (p1) rfl rfl rfl rfl ?_; clear hst; intro w hst) | (refine kf gf97 hst (p2) rfl rfl rfl rfl ?_; clear hst; intro w hst) | (refine kg gf87 hst (fun w hst => hs _ w (hst.own _ _ (by simp))) rfl rfl rfl rfl ?_; clear hst; intro w hst) | (refine kf gf95 hst (hsub) rfl rfl rfl rfl ?_; clear hst; intro w hst) | (refine kp ?_)); (try simp only [pz, pn, sz, sc]); refine re ?_
  refine r2 2 9 ?_ ?_
  (refine kS 8 hst ts165_ (tw24_2 _ _) rfl rfl ?_; clear hst; intro b8 w hb8 hst); (try simp only [pz, pn, sz, sc]); refine re ?_
  refine r2 3 9 ?_ ?_
  (first | (refine kf gf97 hst (p1) rfl rfl rfl rfl ?_; clear hst; intro w hst) | (refine kf gf97 hst (p2) rfl rfl rfl rfl ?_; clear hst; intro w hst) | (refine kg gf87 hst (fun w hst => hs _ w (hst.own _ _ (by simp))) rfl rfl rfl rfl ?_; clear hst; intro w hst) | (refine kf gf95 hst (hsub) rfl rfl rfl rfl ?_; clear hst; intro w hst) | (refine kp ?_)); (try simp only [pz, pn, sz, sc]); refine re ?_
  refine r2 5 9 ?_ ?_
  (first | (refine kf gf97 hst (p1) rfl rfl rfl rfl ?_; clear hst; intro w hst) | (refine kf gf97 hst (p2) rfl rfl rfl rfl ?_; clear hst; intro w hst) | (refine kg gf87 hst (fun w hst => hs _ w (hst.own _ _ (by simp))) rfl rfl rfl rfl ?_; clear hst; intro w hst) | (refine kf gf95 hst (hsub) rfl rfl rfl rfl ?_; clear hst; intro w hst) | (refine kp ?_)); (try simp only [pz, pn, sz, sc]); refine re ?_
  refine r0 6 ?_; simp only [pz, pn, sz, sc]
  refine r0 7 ?_; simp only [pz, pn, sz, sc]
  refine r0 8 ?_; simp only [pz, pn, sz, sc]
  refine r1 9 ?_; (refine ka 3 hst tz24 rfl rfl ?_; clear hst; intro b3 w hb3 hst); (try simp only [pz, pn, sz, sc]); refine re ?_
  refine r1 10 ?_; (first | (refine kt hst ta24 rfl rfl ?_; clear hst; intro w hst) | (refine ktm hst ta24 rfl rfl ?_; clear hst; intro w hst)); (try simp only [pz, pn, sz, sc]); refine re ?_
  refine r0 11 ?_; simp only [pz, pn, sz, sc]
  refine rd_ ?_
  rotate_left 1
  (refine ka 3 hst tz24 rfl rfl ?_; clear hst; intro b3 w hb3 hst); (try simp only [pz, pn, sz, sc]); refine re ?_
  refine r1 5 ?_; (first | (refine kf gf97 hst (p1) rfl rfl rfl rfl ?_; clear hst; intro w hst) | (refine kf gf97 hst (p2) rfl rfl rfl rfl ?_; clear hst; intro w hst) | (refine kg gf87 hst (fun w hst => hs _ w (hst.own _ _ (by simp))) rfl rfl rfl rfl ?_; clear hst; intro w hst) | (refine kf gf95 hst (hsub) rfl rfl rfl rfl ?_; clear hst; intro w hst) | (refine kp ?_)); (try simp only [pz, pn, sz, sc]); refine re ?_
  refine r0 6 ?_; simp only [pz, pn, sz, sc]
  refine r0 7 ?_; simp only [pz, pn, sz, sc]
  refine r0 8 ?_; simp only [pz, pn, sz, sc]
  refine r1 10 ?_; (first | (refine kt hst ta24 rfl rfl ?_; clear hst; intro w hst) | (refine ktm hst ta24 rfl rfl ?_; clear hst; intro w hst)); (try simp only [pz, pn, sz, sc]); refine re ?_
  refine r0 11 ?_; simp only [pz, pn, sz, sc]
  refine rd_ ?_
  rotate_right 1
  rotate_left 2
  (refine ka 3 hst tz24 rfl rfl ?_; clear hst; intro b3 w hb3 hst); (try simp only [pz, pn, sz, sc]); refine re ?_
  refine r1 3 ?_; (first | (refine kf gf97 hst (p1) rfl rfl rfl rfl ?_; clear hst; intro w hst) | (refine kf gf97 hst (p2) rfl rfl rfl rfl ?_; clear hst; intro w hst) | (refine kg gf87 hst (fun w hst => hs _ w (hst.own _ _ (by simp))) rfl rfl rfl rfl ?_; clear hst; intro w hst) | (refine kf gf95 hst (hsub) rfl rfl rfl rfl ?_; clear hst; intro w hst) | (refine kp ?_)); (try simp only [pz, pn, sz, sc]); refine re ?_
  refine r1 5 ?_; (first | (refine kf gf97 hst (p1) rfl rfl rfl rfl ?_; clear hst; intro w hst) | (refine kf gf97 hst (p2) rfl rfl rfl rfl ?_; clear hst; intro w hst) | (refine kg gf87 hst (fun w hst => hs _ w (hst.own _ _ (by simp))) rfl rfl rfl rfl ?_; clear hst; intro w hst) | (refine kf gf95 hst (hsub) rfl rfl rfl rfl ?_; clear hst; intro w hst) | (refine kp ?_)); (try simp only [pz, pn, sz, sc]); refine re ?_
  refine r0 6 ?_; simp only [pz, pn, sz, sc]
  refine r0 7 ?_; simp only [pz, pn, sz, sc]
  refine r0 8 ?_; simp only [pz, pn, sz, sc]
  refine r1 10 ?_; (first | (refine kt hst ta24 rfl rfl ?_; clear hst; intro w hst) | (refine ktm hst ta24 rfl rfl ?_; clear hst; intro w hst)); (try simp only [pz, pn, sz, sc]); refine re ?_
  refine r0 11 ?_; simp only [pz, pn, sz, sc]
  refine rd_ ?_
  rotate_right 2
  rotate_left 3
  (refine ka 3 hst tz24 rfl rfl ?_; clear hst; intro b3 w hb3 hst); (try simp only [pz, pn, sz, sc]); refine re ?_
  refine r1 2 ?_; (refine kS 8 hst ts165_ (tw24_2 _ _) rfl rfl ?_; clear hst; intro b8 w hb8 hst); (try simp only [pz, pn, sz, sc]); refine re ?_
  refine r1 3 ?_; (first | (refine kf gf97 hst (p1) rfl rfl rfl rfl ?_; clear hst; intro w hst) | (refine kf gf97 hst (p2) rfl rfl rfl rfl ?_; clear hst; intro w hst) | (refine kg gf87 hst (fun w hst => hs _ w (hst.own _ _ (by simp))) rfl rfl rfl rfl ?_; clear hst; intro w hst) | (refine kf gf95 hst (hsub) rfl rfl rfl rfl ?_; clear hst; intro w hst) | (refine kp ?_)); (try simp only [pz, pn, sz, sc]); refine re ?_
  refine r1 5 ?_; (first | (refine kf gf97 hst (p1) rfl rfl rfl rfl ?_; clear hst; intro w hst) | (refine kf gf97 hst (p2) rfl rfl rfl rfl ?_; clear hst; intro w hst) | (refine kg gf87 hst (fun w hst => hs _ w (hst.own _ _ (by simp))) rfl rfl rfl rfl ?_; clear hst; intro w hst) | (refine kf gf95 hst (hsub) rfl rfl rfl rfl ?_; clear hst; intro w hst) | (refine kp ?_)); (try simp only [pz, pn, sz, sc]); refine re ?_
  refine r0 6 ?_; simp only [pz, pn, sz, sc]
  refine r0 7 ?_; simp only [pz, pn, sz, sc]
  refine r0 8 ?_; simp only [pz, pn, sz, sc]
  refine r1 10 ?_; (first | (refine kt hst ta24 rfl rfl ?_; clear hst; intro w hst) | (refine ktm hst ta24 rfl rfl ?_; clear hst; intro w hst)); (try simp only [pz, pn, sz, sc]); refine re ?_
  refine r0 11 ?_; simp only [pz, pn, sz, sc]
  refine rd_ ?_
  rotate_right 3
  rotate_left 4
  (refine ka 3 hst tz24 rfl rfl ?_; clear hst; intro b3 w hb3 hst); (try simp only [pz, pn, sz, sc]); refine re ?_
  refine r1 1 ?_; (first | (refine kf gf97 hst (p1) rfl rfl rfl rfl ?_; clear hst; intro w hst) | (refine kf gf97 hst (p2) rfl rfl rfl rfl ?_; clear hst; intro w hst) | (refine kg gf87 hst (fun w hst => hs _ w (hst.own _ _ (by simp))) rfl rfl rfl rfl ?_; clear hst; intro w hst) | (refine kf gf95 hst (hsub) rfl rfl rfl rfl ?_; clear hst; intro w hst) | (refine kp ?_)); (try simp only [pz, pn, sz, sc]); refine re ?_
  refine r1 2 ?_; (refine kS 8 hst ts165_ (tw24_2 _ _) rfl rfl ?_; clear hst; intro b8 w hb8 hst); (try simp only [pz, pn, sz, sc]); refine re ?_
  refine r1 3 ?_; (first | (refine kf gf97 hst (p1) rfl rfl rfl rfl ?_; clear hst; intro w hst) | (refine kf gf97 hst (p2) rfl rfl rfl rfl ?_; clear hst; intro w hst) | (refine kg gf87 hst (fun w hst => hs _ w (hst.own _ _ (by simp))) rfl rfl rfl rfl ?_; clear hst; intro w hst) | (refine kf gf95 hst (hsub) rfl rfl rfl rfl ?_; clear hst; intro w hst) | (refine kp ?_)); (try simp only [pz, pn, sz, sc]); refine re ?_
  refine r1 5 ?_; (first | (refine kf gf97 hst (p1) rfl rfl rfl rfl ?_; clear hst; intro w hst) | (refine kf gf97 hst (p2) rfl rfl rfl rfl ?_; clear hst; intro w hst) | (refine kg gf87 hst (fun w hst => hs _ w (hst.own _ _ (by simp))) rfl rfl rfl rfl ?_; clear hst; intro w hst) | (refine kf gf95 hst (hsub) rfl rfl rfl rfl ?_; clear hst; intro w hst) | (refine kp ?_)); (try simp only [pz, pn, sz, sc]); refine re ?_
  refine r0 6 ?_; simp only [pz, pn, sz, sc]
  refine r0 7 ?_; simp only [pz, pn, sz, sc]
  refine r0 8 ?_; simp only [pz, pn, sz, sc]
  refine r1 10 ?_; (first | (refine kt hst ta24 rfl rfl ?_; clear hst; intro w hst) | (refine ktm hst ta24 rfl rfl ?_; clear hst; intro w hst)); (try simp only [pz, pn, sz, sc]); refine re ?_
  refine r0 11 ?_; simp only [pz, pn, sz, sc]
  refine rd_ ?_
  rotate_right 4
  rotate_left 5
  (refine ka 3 hst tz24 rfl rfl ?_; clear hst; intro b3 w hb3 hst); (try simp only [pz, pn, sz, sc]); refine re ?_
  refine r1 0 ?_; (first | (refine kf gf97 hst (p1) rfl rfl rfl rfl ?_; clear hst; intro w hst) | (refine kf gf97 hst (p2) rfl rfl rfl rfl ?_; clear hst; intro w hst) | (refine kg gf87 hst (fun w hst => hs _ w (hst.own _ _ (by simp))) rfl rfl rfl rfl ?_; clear hst; intro w hst) | (refine kf gf95 hst (hsub) rfl rfl rfl rfl ?_; clear hst; intro w hst) | (refine kp ?_)); (try simp only [pz, pn, sz, sc]); refine re ?_
  refine r1 1 ?_; (first | (refine kf gf97 hst (p1) rfl rfl rfl rfl ?_; clear hst; intro w hst) | (refine kf gf97 hst (p2) rfl rfl rfl rfl ?_; clear hst; intro w hst) | (refine kg gf87 hst (fun w hst => hs _ w (hst.own _ _ (by simp))) rfl rfl rfl rfl ?_; clear hst; intro w hst) | (refine kf gf95 hst (hsub) rfl rfl rfl rfl ?_; clear hst; intro w hst) | (refine kp ?_)); (try simp only [pz, pn, sz, sc]); refine re ?_
  refine r1 2 ?_; (refine kS 8 hst ts165_ (tw24_2 _ _) rfl rfl ?_; clear hst; intro b8 w hb8 hst); (try simp only [pz, pn, sz, sc]); refine re ?_
  refine r1 3 ?_; (first | (refine kf gf97 hst (p1) rfl rfl rfl rfl ?_; clear hst; intro w hst) | (refine kf gf97 hst (p2) rfl rfl rfl rfl ?_; clear hst; intro w hst) | (refine kg gf87 hst (fun w hst => hs _ w (hst.own _ _ (by simp))) rfl rfl rfl rfl ?_; clear hst; intro w hst) | (refine kf gf95 hst (hsub) rfl rfl rfl rfl ?_; clear hst; intro w hst) | (refine kp ?_)); (try simp only [pz, pn, sz, sc]); refine re ?_
  refine r1 5 ?_; (first | (refine kf gf97 hst (p1) rfl rfl rfl rfl ?_; clear hst; intro w hst) | (refine kf gf97 hst (p2) rfl rfl rfl rfl ?_; clear hst; intro w hst) | (refine kg gf87 hst (fun w hst => hs _ w (hst.own _ _ (by simp))) rfl rfl rfl rfl ?_; clear hst; intro w hst) | (refine kf gf95 hst (hsub) rfl rfl rfl rfl ?_; clear hst; intro w hst) | (refine kp ?_)); (try simp only [pz, pn, sz, sc]); refine re ?_
  refine r0 6 ?_; simp only [pz, pn, sz, sc]
  refine r0 7 ?_; simp only [pz, pn, sz, sc]
  refine r0 8 ?_; simp only [pz, pn, sz, sc]
  refine r1 10 ?_; (first | (refine kt hst ta24 rfl rfl ?_; clear hst; intro w hst) | (refine ktm hst ta24 rfl rfl ?_; clear hst; intro w hst)); (try simp only [pz, pn, sz, sc]); refine re ?_
  refine r0 11 ?_; simp only [pz, pn, sz, sc]
  refine rd_ ?_
  rotate_right 5
  all_goals
    go_wp2_with ((first | (refine kb 1 hst rfl rfl ?_; clear hst; intro b1 w hb1 hst) | (refine ka 2 hst tz24 rfl rfl ?_; clear hst; intro b2 w hb2 hst) | (refine kS 8 hst ts165_ (tw24_2 _ _) rfl rfl ?_; clear hst; intro b8 w hb8 hst) | (refine kl hst ta24 rfl ?_) | (refine klm hst ta24 rfl ?_) | (refine ka 3 hst tz24 rfl rfl ?_; clear hst; intro b3 w hb3 hst) | (refine kt hst ta24 rfl rfl ?_; clear hst; intro w hst) | (refine ktm hst ta24 rfl rfl ?_; clear hst; intro w hst)); try simp only [pz, pn, sz, sc])
    refine bp_c rfl rfl (la hst ta24) ⟨?_, hst.keeps⟩
    rfl

theorem of_u64 (v : Nat) (hv : v < B) : ∀ b w, w.heap[b]? = some (.cells (wc 1 v) 22 (0, 0)) → GivesAt Tryz.prog 88 #[.slice (some ⟨b, 0, none⟩) 1 1] (W v) w := fun b w h => by
  have := wide_Of b 0 1 1 1 v 22 (0, 0) (by omega) w h
  rwa [Nat.pow_zero, Nat.div_one, show min 1 8 = 1 from rfl, Nat.mod_eq_of_lt (show v < B ^ 1 by rw [Nat.pow_one]; exact hv)] at this

theorem rguess_le (n : Nat) (h1 : 2 ^ 254 ≤ n) (h2 : n < 2 ^ 256) : rguessAt (n / 2 ^ 249) ≤ 1016 := by
  refine (rguess_table (n / 2 ^ 249) ?_ ?_).2.2
  · rw [Nat.div_lt_iff_lt_mul (by decide)]
    exact Nat.lt_of_lt_of_le h2 (by decide)
  · omega

set_option maxHeartbeats 4000000 in
theorem nroot_seed (br : Nat) (c : Array Value) (hc : RomOk c) (n : Nat) (h1 : 2 ^ 254 ≤ n) (h2 : n < 2 ^ 256) (w0 : World) (hr : w0.heap[br]? = some (.cells c 92)) :
    GivesT Tryz.prog 191 #[.agg #[.pointer (some ⟨br, 0, none⟩)], W n] (W (nrootY n 0)) [(br, .cells c 92)] [(br, .cells romF 92)] w0 := by
  have hst := (St.start [br] w0).add hr (by simp)
  have hg := fun (w : World) (h : w.heap[br]? = some (.cells c 92)) => rom_GuessRoot br c hc n h1 h2 w h
  have hv := rguess_le n h1 h2
  show GivesT _ _ _ (W (rguessAt (n / 2 ^ 249) * 2 ^ 151)) _ _ _
  clear hr hc h1 h2
  generalize rguessAt (n / 2 ^ 249) = v at *
  have hvB : v < B := by rw [B_val]; omega
  have hof := of_u64 v hvB
  have h1' := Lib.hid (wc_1 v hvB)
  have hvM : v < M := small_M (by omega)
  have hshl := wide_Shl v 151 hvM
  rw [show clampN 151 = 151 from rfl, Nat.mod_eq_of_lt (small_M (by omega))] at hshl
  generalize v * 2 ^ 151 = y at *
  generalize romF = cf at *
  go_enter Tryz.func191, Tryz.ntmps191
  go_wp2_with ((first | (refine kT gf192 hst (fun w hst => hg w (hst.own _ _ (by simp))) rfl rfl rfl rfl ?_; clear hst; intro w hst) | (refine kg gf88 hst (fun w hst => hof _ w (by rw [← h1'.out]; exact hst.own _ _ (by simp))) rfl rfl rfl rfl ?_; clear hst; intro w hst) | (refine kf gf94 hst (hshl) rfl rfl rfl rfl ?_; clear hst; intro w hst) | (refine kb 2 hst rfl rfl ?_; clear hst; intro b2 w hb2 hst) | (refine kb 3 hst rfl rfl ?_; clear hst; intro b3 w hb3 hst) | (refine ka 4 hst tz24 rfl rfl ?_; clear hst; intro b4 w hb4 hst) | (refine kc hst tc56 rfl ?_) | (refine kl hst ta24 rfl ?_) | (refine klm hst ta24 rfl ?_) | (refine wl_slice1 (o := ⟨some 15, _, _, _, _, _⟩) hst ts148 te22 rfl rfl (by (simp only [eval_lit, eval_k, eval_f, eval_g, List.getD_cons_succ, List.getD_cons_zero]) <;> rfl) (by rfl) ?_; clear hst; intro b15 w hb15 hst) | (refine kt hst ta24 rfl rfl ?_; clear hst; intro w hst) | (refine ktm hst ta24 rfl rfl ?_; clear hst; intro w hst)); try simp only [pz, pn, sz, sc])
  first | exact bp_c rfl rfl (la hst ta24) (GivesT.of hst rfl (by simp)) | exact bp_c rfl rfl (la hst ta24) ⟨rfl, hst.keeps, hst.own _ _ (by simp)⟩

theorem pow_sq_M (j k : Nat) (h : j + k < 512) : 2 ^ j * 2 ^ k < M := by
  rw [← Nat.pow_add]
  exact pow_M h
theorem sq_M : 3 * R * (3 * R) < M := by
  have h : 3 * R ≤ 2 ^ 162 := by decide
  exact Nat.lt_of_le_of_lt (Nat.mul_le_mul h h) (pow_sq_M 162 162 (by omega))
theorem rootI_most (n m : Nat) (h1 : 2 ^ 254 ≤ n) (h2 : n < K * K) (hm : m ≤ 5) : nrootY n m ≤ 3 * R ∧ n * (nrootY n m * nrootY n m / R) / (K * K) ≤ 3 * R :=
  rootI_small n _ _ h1 (deltas_le m (by omega)) (nrootY_near n h1 h2 m hm)

set_option maxHeartbeats 4000000 in
theorem nroot_better (n m : Nat) (h1 : 2 ^ 254 ≤ n) (h2 : n < 2 ^ 256) (hm : m ≤ 5) (b1 : Nat) (E1 : TypeId) (w0 : World) (hb : w0.heap[b1]? = some (.cells (wc 8 n) E1)) :
    GivesAt Tryz.prog 189 #[W (nrootY n m), .pointer (some ⟨b1, 0, none⟩)] (W (nrootY n (m + 1))) w0 := by
  have hst := (St.start [] w0).add hb (by simp)
  have hKK : K * K = 2 ^ 256 := by decide
  obtain ⟨q1, q2⟩ := rootI_most n m h1 (by rw [hKK]; exact h2) hm
  show GivesAt _ _ _ (W (nrootY n m * (3 * R - n * (nrootY n m * nrootY n m / R) / (K * K)) / (2 * R))) _
  rw [hKK] at q2 ⊢
  rw [show 2 * R = 2 ^ 161 by decide]
  have hR3 : 3 * R < M := small_M (by decide)
  have hnM : n < M := small_M (by omega)
  have e1 : nrootY n m * nrootY n m / 2 ^ 160 < M := by
    refine Nat.lt_of_le_of_lt (Nat.div_le_self _ _) (Nat.lt_of_le_of_lt (Nat.mul_le_mul q1 q1) ?_)
    exact sq_M
  have t1 := fix_Times (nrootY n m) (nrootY n m) 160 (by omega) (by omega) (by omega) e1
  rw [show (2 : Nat) ^ 160 = R from rfl] at t1 e1
  have t2 := fix_Times n (nrootY n m * nrootY n m / R) 256 hnM e1 (by omega) (by omega)
  have t3 := nroot_three _ q2
  have t4 := fix_Times (nrootY n m) (3 * R - n * (nrootY n m * nrootY n m / R) / 2 ^ 256) 161 (by omega) (by omega) (by omega) (by
    refine Nat.lt_of_le_of_lt (Nat.div_le_self _ _) (Nat.lt_of_le_of_lt (Nat.mul_le_mul q1 (Nat.sub_le _ _)) ?_)
    exact sq_M)
  clear q1 q2 e1 hb h1 h2 hKK hR3 hnM hm
  generalize nrootY n m * (3 * R - n * (nrootY n m * nrootY n m / R) / 2 ^ 256) / 2 ^ 161 = z4 at *
  generalize 3 * R - n * (nrootY n m * nrootY n m / R) / 2 ^ 256 = z3 at *
  generalize n * (nrootY n m * nrootY n m / R) / 2 ^ 256 = z2 at *
  generalize nrootY n m * nrootY n m / R = z1 at *
  generalize nrootY n m = y at *
  go_enter Tryz.func189, Tryz.ntmps189
  go_wp2_with ((first | (refine kf gf167 hst (t1) rfl rfl rfl rfl ?_; clear hst; intro w hst) | (refine kb 2 hst rfl rfl ?_; clear hst; intro b2 w hb2 hst) | (refine ka 3 hst tz24 rfl rfl ?_; clear hst; intro b3 w hb3 hst) | (refine kl hst ta24 rfl ?_) | (refine klm hst ta24 rfl ?_) | (refine ka 4 hst tz24 rfl rfl ?_; clear hst; intro b4 w hb4 hst) | (refine kt hst ta24 rfl rfl ?_; clear hst; intro w hst) | (refine ktm hst ta24 rfl rfl ?_; clear hst; intro w hst)); try simp only [pz, pn, sz, sc])
  refine wp_region_T 6  hst (by kernel_rfl) ?_; clear hst; intro w hst; (try dsimp only [List.length_cons, List.length_nil]); (try simp only [List.length_cons, List.length_nil, Nat.reduceAdd, Array.replicate_succ, Array.replicate_zero, List.push_toArray, List.nil_append, List.cons_append])
  refine rl 0 rfl ?_ (by first | exact ylA ta24 | exact ylM ta24); simp only [pz, pn, sz, sc]
  refine rl 1 rfl ?_ (by first | exact ylA ta24 | exact ylM ta24); simp only [pz, pn, sz, sc]
  refine rl 2 rfl ?_ (by first | exact ylA ta24 | exact ylM ta24); simp only [pz, pn, sz, sc]
  refine r1 3 ?_; (first | (refine kf gf167 hst (t2) rfl rfl rfl rfl ?_; clear hst; intro w hst) | (refine kf gf190 hst (t3) rfl rfl rfl rfl ?_; clear hst; intro w hst) | (refine kf gf167 hst (t4) rfl rfl rfl rfl ?_; clear hst; intro w hst) | (refine kp ?_)); (try simp only [pz, pn, sz, sc]); refine re ?_
  refine r1 4 ?_; (first | (refine kf gf167 hst (t2) rfl rfl rfl rfl ?_; clear hst; intro w hst) | (refine kf gf190 hst (t3) rfl rfl rfl rfl ?_; clear hst; intro w hst) | (refine kf gf167 hst (t4) rfl rfl rfl rfl ?_; clear hst; intro w hst) | (refine kp ?_)); (try simp only [pz, pn, sz, sc]); refine re ?_
  refine r1 5 ?_; (first | (refine kf gf167 hst (t2) rfl rfl rfl rfl ?_; clear hst; intro w hst) | (refine kf gf190 hst (t3) rfl rfl rfl rfl ?_; clear hst; intro w hst) | (refine kf gf167 hst (t4) rfl rfl rfl rfl ?_; clear hst; intro w hst) | (refine kp ?_)); (try simp only [pz, pn, sz, sc]); refine re ?_
  refine r1 6 ?_; (first | (refine kt hst ta24 rfl rfl ?_; clear hst; intro w hst) | (refine ktm hst ta24 rfl rfl ?_; clear hst; intro w hst)); (try simp only [pz, pn, sz, sc]); refine re ?_
  refine rd_ ?_
  go_wp2_with ((first | (refine kb 2 hst rfl rfl ?_; clear hst; intro b2 w hb2 hst) | (refine ka 3 hst tz24 rfl rfl ?_; clear hst; intro b3 w hb3 hst) | (refine kl hst ta24 rfl ?_) | (refine klm hst ta24 rfl ?_) | (refine ka 4 hst tz24 rfl rfl ?_; clear hst; intro b4 w hb4 hst) | (refine kt hst ta24 rfl rfl ?_; clear hst; intro w hst) | (refine ktm hst ta24 rfl rfl ?_; clear hst; intro w hst)); try simp only [pz, pn, sz, sc])
  refine bp_c rfl rfl (la hst ta24) ⟨?_, hst.keeps⟩
  rfl

end Go.Proofs.YtggchelniblipaaGreatDoor.Rd
