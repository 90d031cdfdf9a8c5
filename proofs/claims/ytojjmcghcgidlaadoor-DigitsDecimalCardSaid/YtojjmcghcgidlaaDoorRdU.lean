/- What digits.read answers, by 16. -/
import Derived.Test.YtojjmcghcgidlaaDoorRdT
namespace Go.Proofs.YtojjmcghcgidlaaDoor.Rd
open Go Go.RowKit
set_option linter.unusedVariables false
set_option linter.unusedSimpArgs false
set_option maxRecDepth 100000

set_option maxHeartbeats 8000000 in
theorem digits_read_16 (s : ByteArray) : Gives Tryd.prog 19 #[.string s, .int .i64 16, .func (.func 20) #[] #[]] (.tuple #[W (rd 16 s.data.toList).1, .int .i64 ((rd 16 s.data.toList).2 : Nat)]) := by
  intro w0
  have hst := St.start [] w0
  have hplain := digits_plain_16 s
  unfold rd
  cases hp : isPlain 16 s.data.toList with
  | false =>
    rw [hp] at hplain
    clear hp
    rw [if_neg (by simp)]
    go_enter Tryd.func19, Tryd.ntmps19
    go_wp2_with ((first | (refine kf gf33 hst (hplain) rfl rfl rfl rfl ?_; clear hst; intro w hst) | (refine ka 6 hst tz24 rfl rfl ?_; clear hst; intro b6 w hb6 hst) | (refine kt hst ta24 rfl rfl ?_; clear hst; intro w hst) | (refine ka 8 hst tz24 rfl rfl ?_; clear hst; intro b8 w hb8 hst) | (refine kl hst ta24 rfl ?_) | (refine ka 11 hst tz24 rfl rfl ?_; clear hst; intro b11 w hb11 hst) | (refine wl_slice1 (o := ⟨some 37, _, _, _, _, _⟩) hst ts77 te22 rfl rfl (by (simp only [eval_lit, eval_k, eval_f, eval_g, List.getD_cons_succ, List.getD_cons_zero]) <;> rfl) (by rfl) ?_; clear hst; intro b37 w hb37 hst)); try simp only [pz, pn, sz, sc])
    refine bp_ct rfl rfl (la hst ta24) (by rfl) ⟨?_, hst.keeps⟩
    rw [W_zero]; rfl
  | true =>
    have hall := plain_all 16 _ hp
    rw [hp] at hplain
    rw [if_pos rfl]
    have hall' := Lib.hid hall
    clear hp hall
    generalize hl : s.data.toList = l at *
    have hl' := Lib.hid hl
    clear hl
    have hsz : s.size = l.length := by rw [← hl'.out]; simp
    have hsz' := Lib.hid hsz
    clear hsz
    obtain ⟨R, hR⟩ : ∃ R, (if nv 16 l < M then (nv 16 l, 0) else (0, 4)) = R := ⟨_, rfl⟩
    rw [hR]
    have hR' := Lib.hid hR
    clear hR
    go_enter Tryd.func19, Tryd.ntmps19
    go_wp2_with ((first | (refine kf gf33 hst (hplain) rfl rfl rfl rfl ?_; clear hst; intro w hst) | (refine wl_range (o := ⟨some 20, _, _, _, _, _⟩) hst (by kernel_rfl) rfl rfl (by rfl) ?_; clear hst; intro b20 w hb20 hst; (try simp only [pz, pn, sz, sc])) | (refine ka 6 hst tz24 rfl rfl ?_; clear hst; intro b6 w hb6 hst) | (refine kt hst ta24 rfl rfl ?_; clear hst; intro w hst) | (refine ka 8 hst tz24 rfl rfl ?_; clear hst; intro b8 w hb8 hst) | (refine kl hst ta24 rfl ?_) | (refine ka 11 hst tz24 rfl rfl ?_; clear hst; intro b11 w hb11 hst) | (refine wl_slice1 (o := ⟨some 37, _, _, _, _, _⟩) hst ts77 te22 rfl rfl (by (simp only [eval_lit, eval_k, eval_f, eval_g, List.getD_cons_succ, List.getD_cons_zero]) <;> rfl) (by rfl) ?_; clear hst; intro b37 w hb37 hst)); try simp only [pz, pn, sz, sc])
    go_loopw [] (fun wr => ∃ (k m : Nat), k ≤ l.length ∧ m = nv 16 (l.take k) ∧ m < M ∧ St w0 [] [(b20, .stringIter s k), (b8, .cells (wc 8 m) 24), (b6, .cells (wc 8 0) 24)] wr) (fun wr => match wr.heap[b20]? with | some (.stringIter _ k) => l.length - k | _ => 0)
    case atStart => exact ⟨0, 0, by omega, rfl, by decide, hst⟩
    case round =>
      clear hst
      obtain ⟨k, m, hk, hm, hmM, hst⟩ := hrel
      have hst0 := Lib.hid hst
      have hend : ∀ (wr : World), St w0 [] [(b20, .stringIter s k), (b8, .cells (wc 8 m) 24), (b6, .cells (wc 8 0) 24)] wr → wr.heap[b20]? = some (.stringIter s k) := fun wr h => h.own _ _ (by simp)
      by_cases hke : k = l.length
      · subst hke
        have hnp : ¬ l.length < s.size := by rw [hsz'.out]; omega
        rw [List.take_length] at hm
        have hfin : (if nv 16 l < M then (nv 16 l, 0) else (0, 4)) = (m, 0) := by rw [← hm, if_pos hmM]
        have hfin' := Lib.hid hfin
        clear hm hfin hend hk
        go_wp2_with ((first | (refine wl_next_end hst rfl rfl (by rfl) (by repeat (first | exact List.Mem.head _ | refine List.Mem.tail _ ?_)) hnp ?_; (try simp only [pz, pn, sz, sc])) | (refine ka 6 hst tz24 rfl rfl ?_; clear hst; intro b6 w hb6 hst) | (refine kt hst ta24 rfl rfl ?_; clear hst; intro w hst) | (refine ka 8 hst tz24 rfl rfl ?_; clear hst; intro b8 w hb8 hst) | (refine kl hst ta24 rfl ?_) | (refine ka 11 hst tz24 rfl rfl ?_; clear hst; intro b11 w hb11 hst) | (refine wl_slice1 (o := ⟨some 37, _, _, _, _, _⟩) hst ts77 te22 rfl rfl (by (simp only [eval_lit, eval_k, eval_f, eval_g, List.getD_cons_succ, List.getD_cons_zero]) <;> rfl) (by rfl) ?_; clear hst; intro b37 w hb37 hst)); try simp only [pz, pn, sz, sc])
        refine bp_ct rfl rfl (la hst ta24) (by rfl) ⟨?_, hst.keeps⟩
        rw [← hR'.out, hfin'.out]; rfl
      · obtain ⟨c, hc⟩ : ∃ c, l[k]? = some c := ⟨_, List.getElem?_eq_getElem (by omega)⟩
        have hcv := hall'.out k c hc
        have hstep := nv_take 16 l k c hc
        have hge := nv_take_le 16 (by omega) l (k + 1)
        have hv : s.data[k]? = some c := by rw [← hc, ← hl'.out, Array.getElem?_toList]
        have hv' := Lib.hid hv
        have ha : c.toNat < 128 := by have := val_small c.toNat (by omega); omega
        have hw := digits_worth c.toNat (by omega)
        generalize hvv : val c.toNat = v at *
        rw [← hm] at hstep
        have hs : Gives Tryd.prog 39 #[W m, .int .u64 16] (.tuple #[W (m * 16 % M), .bool (decide (m * 16 < M))]) := prod_Small m 16 hmM (by decide)
        have hvB : v < B := by rw [B_val]; omega
        have hvM : v < M := Nat.lt_trans hvB (by decide)
        have hM0 : 0 < M := by decide
        have hof := fun (b : Nat) w (h : w.heap[b]? = some (.cells (wc 1 v) 22 (0, 0))) => (show GivesAt Tryd.prog 41 #[.slice (some ⟨b, 0, none⟩) 1 1] (W v) w by
          have := wide_Of b 0 1 1 1 v 22 (0, 0) (by omega) w h
          rwa [show v / B ^ 0 % B ^ (min 1 8) = v by rw [Nat.pow_zero, Nat.div_one]; exact Nat.mod_eq_of_lt (by simpa using hvB)] at this)
        have h1 := wc_1 v hvB
        have h1' := Lib.hid h1
        have hadd := wide_Add (m * 16 % M) v (Nat.mod_lt _ hM0) hvM
        have h10 : (0 : Int) ≤ (v : Int) := by omega
        have h11 : (v : Int) < 16 := by omega
        have hwv : IntKind.u64.wrap (v : Int) = (v : Int) := by rw [u64_wrap, Nat.mod_eq_of_lt hvB]
        have hfits : (decide (m * 16 < M) = true ∧ decide (M ≤ m * 16 % M + v) = false) → (m * 16 % M + v) % M = nv 16 (l.take (k + 1)) ∧ nv 16 (l.take (k + 1)) < M := by
          intro ⟨g1, g2⟩
          simp only [decide_eq_true_eq, decide_eq_false_iff_not] at g1 g2
          rw [Nat.mod_eq_of_lt g1] at g2 ⊢
          rw [Nat.mod_eq_of_lt (by omega)]
          omega
        have hover : ¬ (decide (m * 16 < M) = true ∧ decide (M ≤ m * 16 % M + v) = false) → (if nv 16 l < M then (nv 16 l, 0) else (0, 4)) = (0, 4) := by
          intro g
          apply if_neg
          intro h2
          apply g
          have : m * 16 < M := by omega
          rw [Nat.mod_eq_of_lt this]
          constructor
          · simpa using this
          · simp; omega
        have hrM : (m * 16 % M + v) % M < M := Nat.mod_lt _ hM0
        generalize m * 16 % M = p at *
        generalize (p + v) % M = r at *
        generalize decide (m * 16 < M) = f at *
        generalize decide (M ≤ p + v) = o at *
        have hkl : k < l.length := by omega
        have hfits' := Lib.hid hfits
        have hover' := Lib.hid hover
        have hm' := Lib.hid hm
        clear hfits hover hm hstep hge hv hcv hvv h1 hc hk hke hmM
        go_wp2_with ((first | (refine kf gf39 hst (hs) rfl rfl rfl rfl ?_; clear hst; intro w hst) | (refine wl_next hst rfl rfl (by rfl) hv'.out ha (by repeat (first | exact At.head _ | apply At.tail)) (by first | exact Or.inl (by assumption) | (refine Or.inr ?_; simp)) ?_; clear hst; intro w hst; (try simp only [pz, pn, sz, sc])) | (refine ka 6 hst tz24 rfl rfl ?_; clear hst; intro b6 w hb6 hst) | (refine kt hst ta24 rfl rfl ?_; clear hst; intro w hst) | (refine ka 8 hst tz24 rfl rfl ?_; clear hst; intro b8 w hb8 hst) | (refine kl hst ta24 rfl ?_) | (refine ka 11 hst tz24 rfl rfl ?_; clear hst; intro b11 w hb11 hst) | (refine wl_slice1 (o := ⟨some 37, _, _, _, _, _⟩) hst ts77 te22 rfl rfl (by (simp only [eval_lit, eval_k, eval_f, eval_g, List.getD_cons_succ, List.getD_cons_zero]) <;> rfl) (by rfl) ?_; clear hst; intro b37 w hb37 hst)); try simp only [pz, pn, sz, sc])
        refine wp_region_T 11  hst (by kernel_rfl) ?_; clear hst; intro w hst; (try dsimp only [List.length_cons, List.length_nil]); (try simp only [List.length_cons, List.length_nil, Nat.reduceAdd, Array.replicate_succ, Array.replicate_zero, List.push_toArray, List.nil_append, List.cons_append])
        refine r0 1 ?_; simp only [pz, pn, sz, sc]
        refine r0 2 ?_; simp only [pz, pn, sz, sc]
        refine rl 0 rfl ?_ (ylA ta24); simp only [pz, pn, sz, sc]
        refine r1 3 ?_; (first | (refine kf gf20 hst (hw) rfl rfl rfl rfl ?_; clear hst; intro w hst) | (refine kg gf41 hst (fun w hst => hof _ w (by rw [← h1'.out]; exact hst.own _ _ (by simp))) rfl rfl rfl rfl ?_; clear hst; intro w hst) | (refine kf gf40 hst (hadd) rfl rfl rfl rfl ?_; clear hst; intro w hst) | (refine kp ?_)); (try simp only [pz, pn, sz, sc]); refine re ?_
        refine r0 4 ?_; simp only [pz, pn, sz, sc]
        refine r1 5 ?_; (refine wl_slice1 (o := ⟨some 37, _, _, _, _, _⟩) hst ts77 te22 rfl rfl (by (simp only [eval_lit, eval_k, eval_f, eval_g, List.getD_cons_succ, List.getD_cons_zero]) <;> rfl) (by rfl) ?_; clear hst; intro b37 w hb37 hst); (try simp only [pz, pn, sz, sc]); refine re ?_
        refine r1 6 ?_; (first | (refine kf gf20 hst (hw) rfl rfl rfl rfl ?_; clear hst; intro w hst) | (refine kg gf41 hst (fun w hst => hof _ w (by rw [← h1'.out]; exact hst.own _ _ (by simp))) rfl rfl rfl rfl ?_; clear hst; intro w hst) | (refine kf gf40 hst (hadd) rfl rfl rfl rfl ?_; clear hst; intro w hst) | (refine kp ?_)); (try simp only [pz, pn, sz, sc]); refine re ?_
        refine r1 7 ?_; (first | (refine kf gf20 hst (hw) rfl rfl rfl rfl ?_; clear hst; intro w hst) | (refine kg gf41 hst (fun w hst => hof _ w (by rw [← h1'.out]; exact hst.own _ _ (by simp))) rfl rfl rfl rfl ?_; clear hst; intro w hst) | (refine kf gf40 hst (hadd) rfl rfl rfl rfl ?_; clear hst; intro w hst) | (refine kp ?_)); (try simp only [pz, pn, sz, sc]); refine re ?_
        refine r0 8 ?_; simp only [pz, pn, sz, sc]
        refine r0 9 ?_; simp only [pz, pn, sz, sc]
        refine r0 10 ?_; simp only [pz, pn, sz, sc]
        refine r1 11 ?_; (refine kt hst ta24 rfl rfl ?_; clear hst; intro w hst); (try simp only [pz, pn, sz, sc]); refine re ?_
        refine r0 12 ?_; simp only [pz, pn, sz, sc]
        refine rd_ ?_
        clear hadd hof hw hs hv' h1' hl' hall'
        by_cases hfo : f = true ∧ o = false
        · obtain ⟨rfl, rfl⟩ := hfo
          obtain ⟨g1, g2⟩ := hfits'.out ⟨rfl, rfl⟩
          have g1' := Lib.hid g1
          clear hfits' hover' g1
          go_wp2_with ((first | (refine ka 6 hst tz24 rfl rfl ?_; clear hst; intro b6 w hb6 hst) | (refine kt hst ta24 rfl rfl ?_; clear hst; intro w hst) | (refine ka 8 hst tz24 rfl rfl ?_; clear hst; intro b8 w hb8 hst) | (refine kl hst ta24 rfl ?_) | (refine ka 11 hst tz24 rfl rfl ?_; clear hst; intro b11 w hb11 hst) | (refine wl_slice1 (o := ⟨some 37, _, _, _, _, _⟩) hst ts77 te22 rfl rfl (by (simp only [eval_lit, eval_k, eval_f, eval_g, List.getD_cons_succ, List.getD_cons_zero]) <;> rfl) (by rfl) ?_; clear hst; intro b37 w hb37 hst)); try simp only [pz, pn, sz, sc])
          go_roundw
          case rel => exact ⟨k + 1, r, hkl, g1'.out, by rw [g1'.out]; exact g2, hst.sub (by repeat (first | exact List.Sublist.refl _ | refine List.Sublist.cons _ ?_ | refine List.Sublist.cons_cons _ ?_))⟩
          case measure => rw [hend _ hst0, hst.own b20 (.stringIter s (k + 1)) (by simp)]; simp only []; omega
        · have hov := hover'.out hfo
          have hov' := Lib.hid hov
          clear hov hfits' hover'
          have hfo' : f = false ∨ (f = true ∧ o = true) := by cases f <;> cases o <;> simp_all
          clear hfo
          rcases hfo' with rfl | ⟨rfl, rfl⟩
          · go_wp2_with ((first | (refine ka 6 hst tz24 rfl rfl ?_; clear hst; intro b6 w hb6 hst) | (refine kt hst ta24 rfl rfl ?_; clear hst; intro w hst) | (refine ka 8 hst tz24 rfl rfl ?_; clear hst; intro b8 w hb8 hst) | (refine kl hst ta24 rfl ?_) | (refine ka 11 hst tz24 rfl rfl ?_; clear hst; intro b11 w hb11 hst) | (refine wl_slice1 (o := ⟨some 37, _, _, _, _, _⟩) hst ts77 te22 rfl rfl (by (simp only [eval_lit, eval_k, eval_f, eval_g, List.getD_cons_succ, List.getD_cons_zero]) <;> rfl) (by rfl) ?_; clear hst; intro b37 w hb37 hst)); try simp only [pz, pn, sz, sc])
            refine bp_ct rfl rfl (la hst ta24) (by rfl) ⟨?_, hst.keeps⟩
            rw [← hR'.out, hov'.out, W_zero]; rfl
          · go_wp2_with ((first | (refine ka 6 hst tz24 rfl rfl ?_; clear hst; intro b6 w hb6 hst) | (refine kt hst ta24 rfl rfl ?_; clear hst; intro w hst) | (refine ka 8 hst tz24 rfl rfl ?_; clear hst; intro b8 w hb8 hst) | (refine kl hst ta24 rfl ?_) | (refine ka 11 hst tz24 rfl rfl ?_; clear hst; intro b11 w hb11 hst) | (refine wl_slice1 (o := ⟨some 37, _, _, _, _, _⟩) hst ts77 te22 rfl rfl (by (simp only [eval_lit, eval_k, eval_f, eval_g, List.getD_cons_succ, List.getD_cons_zero]) <;> rfl) (by rfl) ?_; clear hst; intro b37 w hb37 hst)); try simp only [pz, pn, sz, sc])
            refine bp_ct rfl rfl (la hst ta24) (by rfl) ⟨?_, hst.keeps⟩
            rw [← hR'.out, hov'.out, W_zero]; rfl

end Go.Proofs.YtojjmcghcgidlaaDoor.Rd
