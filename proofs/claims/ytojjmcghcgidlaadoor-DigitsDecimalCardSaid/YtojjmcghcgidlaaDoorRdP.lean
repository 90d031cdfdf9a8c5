/- What prod.Small answers. -/
import Derived.Test.YtojjmcghcgidlaaDoorRdI
import Derived.Test.YtojjmcghcgidlaaDoorRdJ
namespace Go.Proofs.YtojjmcghcgidlaaDoor.Rd
open Go Go.RowKit
set_option linter.unusedVariables false
set_option linter.unusedSimpArgs false
set_option maxRecDepth 100000

set_option maxHeartbeats 4000000 in
theorem prod_Small (n x : Nat) (hn : n < M) (hx : x < B) : Gives Tryd.prog 39 #[W n, .int .u64 x] (.tuple #[W (n * x % M), .bool (decide (n * x < M))]) := by
  intro w0
  have hst := St.start [] w0
  have hxM : x < M := Nat.lt_of_lt_of_le hx (by decide)
  have hc := prod_Mul n x hn hxM
  have hof := fun (b8 : Nat) w (h : w.heap[b8]? = some (.cells (wc 1 x) 22 (0, 0))) => (show GivesAt Tryd.prog 41 #[.slice (some ⟨b8, 0, none⟩) 1 1] (W x) w by
    have := wide_Of b8 0 1 1 1 x 22 (0, 0) (by omega) w h
    rwa [show x / B ^ 0 % B ^ (min 1 8) = x by rw [Nat.pow_zero, Nat.div_one]; exact Nat.mod_eq_of_lt (by simpa using hx)] at this)
  have h1 := wc_1 x hx
  have h1' := Lib.hid h1
  clear h1
  go_enter Tryd.func39, Tryd.ntmps39
  go_wp2_with ((first | (refine kb 2 hst rfl rfl ?_; clear hst; intro b2 w hb2 hst) | (refine ka 4 hst tz24 rfl rfl ?_; clear hst; intro b4 w hb4 hst) | (refine kl hst ta24 rfl ?_) | (refine wl_slice1 (o := ⟨some 8, _, _, _, _, _⟩) hst ts77 te22 rfl rfl (by (simp only [eval_lit, eval_k, eval_f, eval_g, List.getD_cons_succ, List.getD_cons_zero]) <;> rfl) (by rfl) ?_; clear hst; intro b8 w hb8 hst) | (refine kt hst ta24 rfl rfl ?_; clear hst; intro w hst)); try simp only [pz, pn, sz, sc])
  refine wp_region_T 7  hst (by kernel_rfl) ?_; clear hst; intro w hst; (try dsimp only [List.length_cons, List.length_nil]); (try simp only [List.length_cons, List.length_nil, Nat.reduceAdd, Array.replicate_succ, Array.replicate_zero, List.push_toArray, List.nil_append, List.cons_append])
  refine r0 1 ?_; simp only [pz, pn, sz, sc]
  refine rl 0 rfl ?_ (ylA ta24); simp only [pz, pn, sz, sc]
  refine r1 2 ?_; (refine wl_slice1 (o := ⟨some 8, _, _, _, _, _⟩) hst ts77 te22 rfl rfl (by (simp only [eval_lit, eval_k, eval_f, eval_g, List.getD_cons_succ, List.getD_cons_zero]) <;> rfl) (by rfl) ?_; clear hst; intro b8 w hb8 hst); (try simp only [pz, pn, sz, sc]); refine re ?_
  refine r1 3 ?_; (first | (refine kg gf41 hst (fun w hst => hof _ w (by rw [← h1'.out]; exact hst.own _ _ (by simp))) rfl rfl rfl rfl ?_; clear hst; intro w hst) | (refine kf gf54 hst (hc) rfl rfl rfl rfl ?_; clear hst; intro w hst) | (refine kp ?_)); (try simp only [pz, pn, sz, sc]); refine re ?_
  refine r1 4 ?_; (first | (refine kg gf41 hst (fun w hst => hof _ w (by rw [← h1'.out]; exact hst.own _ _ (by simp))) rfl rfl rfl rfl ?_; clear hst; intro w hst) | (refine kf gf54 hst (hc) rfl rfl rfl rfl ?_; clear hst; intro w hst) | (refine kp ?_)); (try simp only [pz, pn, sz, sc]); refine re ?_
  refine r0 5 ?_; simp only [pz, pn, sz, sc]
  refine r0 6 ?_; simp only [pz, pn, sz, sc]
  refine r1 7 ?_; (refine kt hst ta24 rfl rfl ?_; clear hst; intro w hst); (try simp only [pz, pn, sz, sc]); refine re ?_
  refine r0 8 ?_; simp only [pz, pn, sz, sc]
  refine rd_ ?_
  go_wp2_with ((first | (refine kb 2 hst rfl rfl ?_; clear hst; intro b2 w hb2 hst) | (refine ka 4 hst tz24 rfl rfl ?_; clear hst; intro b4 w hb4 hst) | (refine kl hst ta24 rfl ?_) | (refine wl_slice1 (o := ⟨some 8, _, _, _, _, _⟩) hst ts77 te22 rfl rfl (by (simp only [eval_lit, eval_k, eval_f, eval_g, List.getD_cons_succ, List.getD_cons_zero]) <;> rfl) (by rfl) ?_; clear hst; intro b8 w hb8 hst) | (refine kt hst ta24 rfl rfl ?_; clear hst; intro w hst)); try simp only [pz, pn, sz, sc])
  refine bp_ct rfl rfl (la hst ta24) (by rfl) ⟨?_, hst.keeps⟩
  rfl

end Go.Proofs.YtojjmcghcgidlaaDoor.Rd
