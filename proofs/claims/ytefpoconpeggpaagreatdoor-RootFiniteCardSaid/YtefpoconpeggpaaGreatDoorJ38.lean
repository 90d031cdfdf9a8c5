/- RootFinite, no such engine. -/
import Derived.Test.YtefpoconpeggpaaGreatDoorJ37
namespace Go.Proofs.YtefpoconpeggpaaGreatDoor.Rd
open Go Go.RowKit
set_option linter.unusedVariables false
set_option linter.unusedSimpArgs false
set_option maxRecDepth 100000

set_option maxHeartbeats 16000000 in
theorem law_RootFinite_A (k f m : Int) (a b : Nat) (ha : a < M2) (w0 : World) (hF : FmtIn w0) (hkk : k < 1 ∨ 4 < k) : GivesAt Tryz.prog 3 #[.agg (caseC k f m a b)] (.bool true) w0 := by
  have hst := St.start [] w0
  have hk := Lib.hid (fun w (k : Keeps [] w0 w) => hF.keep k (by simp))
  have hkn := hF.lt
  have hF' := Lib.hid hF
  have hnew := fun w => engine_New w
  have haw := fun w h => law25_awake w h
  have hsome := ref25_SomeI f a ha
  obtain ⟨n0, x0, ok0, hP0⟩ := parts_any f a ha
  have hnil := fun w h => root_Finite_nil k f m a n0 x0 ok0 hP0 w h
  have hW0 := Lib.hid Wd_zero
  have h0M : (0 : Nat) < M2 := by decide
  have z0 : decide ((0 : Nat) = 0) = true := rfl
  have y1 := caseC_size k f m a b
  have y2 := caseC_one k f m a b
  obtain ⟨g0, g1, g2⟩ := caseC_at k f m a b
  have hpa := caseC_a k f m a b
  have hfin := fun bs w h => root_Finite_none bs k hkk f m a n0 x0 ok0 hP0 w h
  have hq : decide (k < 1) = true ∨ (decide (k < 1) = false ∧ decide (4 < k) = true) := by
    by_cases h : k < 1
    · exact .inl (decide_eq_true h)
    · exact .inr ⟨decide_eq_false h, decide_eq_true (by omega)⟩
  clear hF hP0 hkk ha
  generalize caseC k f m a b = cs at *
  rcases hq with hq | ⟨hq, hq2⟩
  all_goals
    go_enter Tryz.func3, Tryz.ntmps3
    go_wp2_with ((first | (refine kb 1 hst rfl rfl ?_; clear hst; intro b1 w hb1 hst)); try simp only [pz, pn, sz, sc])
    refine wp_region_T 15  hst (by kernel_rfl) ?_; clear hst; intro w hst; (try simp only [List.length_cons, List.length_nil, Nat.reduceAdd, Array.replicate_succ, Array.replicate_zero, List.push_toArray, List.nil_append, List.cons_append])
    refine r0 1 ?_; simp only [pz, pn, sz, sc]
    refine r0 3 ?_; simp only [pz, pn, sz, sc]
    refine r0 5 ?_; simp only [pz, pn, sz, sc]
    refine r0 7 ?_; simp only [pz, pn, sz, sc]
    refine rl 2 rfl ?_ (ylC tc3); simp only [pz, pn, sz, sc]
    refine rl 4 rfl ?_ (ylC tc3); simp only [pz, pn, sz, sc]
    refine rl 6 rfl ?_ (ylC tc3); simp only [pz, pn, sz, sc]
    refine rl 8 rfl ?_ (by first | exact ylM ta24 (hc := hpa) | exact ylA ta24 | exact ylM ta24); simp only [pz, pn, sz, sc]
    refine r2 0 14 ?_ ?_
    (refine kN (o := ⟨some 13, _, _, _, _, _⟩) gf8 hst (fun w hst => hnew w) rfl rfl rfl rfl ?_; clear hst; intro v13 L w hn13 hR13 hst; obtain ⟨bs, br, hsr, rfl, hS⟩ := hR13; (try simp only [List.cons_append, List.nil_append, List.append_nil, List.append_assoc] at hst); obtain ⟨hbs, hbr⟩ := new_ne hn13 hS hF'.out; have hbs0 : w0.heap.size ≤ bs := hn13.1 (bs, _) (by rw [hS]; exact List.Mem.head _); have hbr0 : w0.heap.size ≤ br := hn13.1 (br, _) (by rw [hS]; exact List.Mem.tail _ (List.Mem.head _))); (try simp only [pz, pn, sz, sc]); refine re ?_
    refine r2 9 14 ?_ ?_
    (refine kg gf7 hst (fun w hst => hfin bs w (hk.out w hst.keeps)) rfl rfl rfl rfl ?_; clear hst; intro w hst); (try simp only [pz, pn, sz, sc]); refine re ?_
    refine r0 10 ?_; simp only [pz, pn, sz, sc]
    refine r0 11 ?_; simp only [pz, pn, sz, sc]
    refine r0 12 ?_; simp only [pz, pn, sz, sc]
    refine r0 13 ?_; simp only [pz, pn, sz, sc]
    refine r1 14 ?_; (refine ka 3 hst tz24 rfl rfl ?_; clear hst; intro b3 w hb3 hst); (try simp only [pz, pn, sz, sc]); refine re ?_
    refine r1 15 ?_; (refine kt hst ta24 rfl rfl ?_; clear hst; intro w hst); (try simp only [pz, pn, sz, sc]); refine re ?_
    refine r0 16 ?_; simp only [pz, pn, sz, sc]
    refine r0 17 ?_; simp only [pz, pn, sz, sc]
    refine rd_ ?_
    rotate_left 1
    (refine ka 3 hst tz24 rfl rfl ?_; clear hst; intro b3 w hb3 hst); (try simp only [pz, pn, sz, sc]); refine re ?_
    refine r1 9 ?_; (refine kg gf7 hst (fun w hst => hfin bs w (hk.out w hst.keeps)) rfl rfl rfl rfl ?_; clear hst; intro w hst); (try simp only [pz, pn, sz, sc]); refine re ?_
    refine r0 10 ?_; simp only [pz, pn, sz, sc]
    refine r0 11 ?_; simp only [pz, pn, sz, sc]
    refine r0 12 ?_; simp only [pz, pn, sz, sc]
    refine r0 13 ?_; simp only [pz, pn, sz, sc]
    refine r1 15 ?_; (refine kt hst ta24 rfl rfl ?_; clear hst; intro w hst); (try simp only [pz, pn, sz, sc]); refine re ?_
    refine r0 16 ?_; simp only [pz, pn, sz, sc]
    refine r0 17 ?_; simp only [pz, pn, sz, sc]
    refine rd_ ?_
    rotate_right 1
    rotate_left 2
    (refine ka 3 hst tz24 rfl rfl ?_; clear hst; intro b3 w hb3 hst); (try simp only [pz, pn, sz, sc]); refine re ?_
    refine r1 0 ?_; (refine kN (o := ⟨some 13, _, _, _, _, _⟩) gf8 hst (fun w hst => hnew w) rfl rfl rfl rfl ?_; clear hst; intro v13 L w hn13 hR13 hst; obtain ⟨bs, br, hsr, rfl, hS⟩ := hR13; (try simp only [List.cons_append, List.nil_append, List.append_nil, List.append_assoc] at hst); obtain ⟨hbs, hbr⟩ := new_ne hn13 hS hF'.out; have hbs0 : w0.heap.size ≤ bs := hn13.1 (bs, _) (by rw [hS]; exact List.Mem.head _); have hbr0 : w0.heap.size ≤ br := hn13.1 (br, _) (by rw [hS]; exact List.Mem.tail _ (List.Mem.head _))); (try simp only [pz, pn, sz, sc]); refine re ?_
    refine r1 9 ?_; (refine kg gf7 hst (fun w hst => hfin bs w (hk.out w hst.keeps)) rfl rfl rfl rfl ?_; clear hst; intro w hst); (try simp only [pz, pn, sz, sc]); refine re ?_
    refine r0 10 ?_; simp only [pz, pn, sz, sc]
    refine r0 11 ?_; simp only [pz, pn, sz, sc]
    refine r0 12 ?_; simp only [pz, pn, sz, sc]
    refine r0 13 ?_; simp only [pz, pn, sz, sc]
    refine r1 15 ?_; (refine kt hst ta24 rfl rfl ?_; clear hst; intro w hst); (try simp only [pz, pn, sz, sc]); refine re ?_
    refine r0 16 ?_; simp only [pz, pn, sz, sc]
    refine r0 17 ?_; simp only [pz, pn, sz, sc]
    refine rd_ ?_
    rotate_right 2
    all_goals
      go_wp2_with ((first | (refine klm hst ta24 rfl ?_ (hc := hpa)) | (refine kg gf7 hst (fun w hst => hnil w (hk.out w hst.keeps)) rfl rfl rfl rfl ?_; clear hst; intro w hst) | (refine kg gf9 hst (fun w hst => haw w (hk.out w hst.keeps)) rfl rfl rfl rfl ?_; clear hst; intro w hst) | (refine wl_guard (by rfl) ?_) | (refine kc hst tc3 rfl ?_) | (refine kl hst ta24 rfl ?_) | (refine kt hst ta24 rfl rfl ?_; clear hst; intro w hst) | (refine ka 7 hst tz24 rfl rfl ?_; clear hst; intro b7 w hb7 hst) | (refine keS tf24 tc22 rfl ?_)); try simp only [pz, pn, sz, sc])
      refine bp_t rfl rfl (by rfl) ⟨?_, hst.keeps⟩
      rfl

end Go.Proofs.YtefpoconpeggpaaGreatDoor.Rd
