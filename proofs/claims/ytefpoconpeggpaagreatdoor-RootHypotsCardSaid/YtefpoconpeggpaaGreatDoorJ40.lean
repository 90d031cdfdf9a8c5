/- RootHypots: what is asked of the words; no such engine. -/
import Derived.Test.YtefpoconpeggpaaGreatDoorJ39
import Derived.Test.YtefpoconpeggpaaGreatDoorJ37
import Derived.Deep.DeepCutAuto
namespace Go.Proofs.YtefpoconpeggpaaGreatDoor.Rd
open Go Go.RowKit
set_option linter.unusedVariables false
set_option linter.unusedSimpArgs false
set_option maxRecDepth 100000

theorem sB_nat {f m : Nat} (f1 : 1 ≤ f) (f4 : f ≤ 4) : sB (f : Int) m = someB f m := by
  unfold sB
  rw [if_pos (by omega)]
  rfl
/-- Whatever the words are. -/
theorem HA_any (f : Int) (a b : Nat) (ha : a < M2) (hb : b < M2) : ∃ ok ex sg, sg < M ∧ HA f a b ok (nbC false ex sg) := by
  cases hs : sB f a
  · exact ⟨_, _, _, M_pos, HA_no f a b (sB_un ha hs)⟩
  · obtain ⟨fn, rfl, f1, f4, hsa⟩ := sB_yes hs
    cases hs2 : sB (fn : Int) b
    · exact ⟨_, _, _, M_pos, HA_2 fn f1 f4 a b hsa (sB_un hb hs2)⟩
    · rw [sB_nat f1 f4] at hs2
      have h := HA_yes fn f1 f4 a b hsa hs2
      unfold hyC at h
      by_cases hk : hyOk fn (uExp fn a) (uExp fn b) = true
      · rw [if_pos hk] at h
        refine ⟨_, _, _, ?_, h⟩
        unfold hyOk at hk
        simp only [Bool.and_eq_true, decide_eq_true_eq] at hk
        have := (hP_in fn a b f1 f4 hk.2 (someB_spec hsa).2.2.1 (someB_spec hs2).2.2.1 hk.1.1 hk.1.2).2
        exact small_M (Nat.lt_trans this (by decide))
      · rw [if_neg hk] at h
        exact ⟨_, _, _, M_pos, h⟩
/-- One of both is none, or they are too far apart, or the format is the greatest. -/
theorem HA_none (f : Int) (a b : Nat) (ha : a < M2) (hb : b < M2) (h : sB f a = false ∨ sB f b = false ∨ ∃ fn : Nat, f = fn ∧ (fn = 4 ∨ ¬ (uExp fn a - uExp fn b ≤ 40 ∧ -40 ≤ uExp fn a - uExp fn b))) : ∃ ok ex sg, sg < M ∧ HA f a b ok (nbC false ex sg) ∧ (ok = false ∨ sg = 0) := by
  cases hs : sB f a
  · exact ⟨_, _, _, M_pos, HA_no f a b (sB_un ha hs), .inl rfl⟩
  · obtain ⟨fn, rfl, f1, f4, hsa⟩ := sB_yes hs
    cases hs2 : sB (fn : Int) b
    · exact ⟨_, _, _, M_pos, HA_2 fn f1 f4 a b hsa (sB_un hb hs2), .inr rfl⟩
    · rw [hs, hs2] at h
      obtain ⟨g, hg, hfar⟩ : ∃ g : Nat, (fn : Int) = g ∧ (g = 4 ∨ ¬ (uExp g a - uExp g b ≤ 40 ∧ -40 ≤ uExp g a - uExp g b)) := by simpa using h
      obtain rfl : fn = g := by omega
      rw [sB_nat f1 f4] at hs2
      have h := HA_yes fn f1 f4 a b hsa hs2
      unfold hyC at h
      rw [if_neg (by unfold hyOk; simp only [Bool.and_eq_true, decide_eq_true_eq]; omega)] at h
      exact ⟨_, _, _, M_pos, h, .inr rfl⟩

set_option maxHeartbeats 16000000 in
theorem law_RootHypots_A (k f m : Int) (a b : Nat) (ha : a < M2) (hb : b < M2) (w0 : World) (hF : FmtIn w0) (hkk : k < 1 ∨ 4 < k) : GivesAt Tryz.prog 5 #[.agg (caseC k f m a b)] (.bool true) w0 := by
  have hst := St.start [] w0
  have hk := Lib.hid (fun w (k : Keeps [] w0 w) => hF.keep k (by simp))
  have hkn := hF.lt
  have hF' := Lib.hid hF
  have hnew := fun w => engine_New w
  have haw := fun w h => law25_awake w h
  have hW0 := Lib.hid Wd_zero
  have h0M : (0 : Nat) < M2 := by decide
  have z0 : decide ((0 : Nat) = 0) = true := rfl
  have y1 := caseC_size k f m a b
  have y2 := caseC_one k f m a b
  obtain ⟨g0, g1, g2⟩ := caseC_at k f m a b
  have hpa := caseC_a k f m a b
  have hpb := caseC_b k f m a b
  obtain ⟨ok, ex, sg, hsM, hA⟩ := HA_any f a b ha hb
  have hfin := fun bs w h => root_Hypot_none bs k hkk f m a b ok ex sg hsM hA w h
  have hq : decide (k < 1) = true ∨ (decide (k < 1) = false ∧ decide (4 < k) = true) := by
    by_cases h : k < 1
    · exact .inl (decide_eq_true h)
    · exact .inr ⟨decide_eq_false h, decide_eq_true (by omega)⟩
  clear hF hA hkk ha hb hsM
  generalize caseC k f m a b = cs at *
  go_enter Tryz.func5, Tryz.ntmps5
  go_wp2_with ((first | (refine kb 1 hst rfl rfl ?_; clear hst; intro b1 w hb1 hst)); try simp only [pz, pn, sz, sc])
  go_cut [3, 4, 5] (fun s3 s4 s5 wx => ∃ b3, s3 = .pointer (some ⟨b3, 0, none⟩) ∧ s4 = .int .i64 0 ∧ s5 = .int .i64 7 ∧ w0.heap.size ≤ b3 ∧ St w0 [] [(b3, .cells (wdc 0) 24), (b1, .cells cs 26)] wx)
  case first =>
    refine wp_region_T 17  hst (by kernel_rfl) ?_; clear hst; intro w hst; (try simp only [List.length_cons, List.length_nil, Nat.reduceAdd, Array.replicate_succ, Array.replicate_zero, List.push_toArray, List.nil_append, List.cons_append])
    refine r0 1 ?_; simp only [pz, pn, sz, sc]
    refine r0 3 ?_; simp only [pz, pn, sz, sc]
    refine r0 5 ?_; simp only [pz, pn, sz, sc]
    refine r0 7 ?_; simp only [pz, pn, sz, sc]
    refine r0 9 ?_; simp only [pz, pn, sz, sc]
    refine rl 2 rfl ?_ (ylC tc3); simp only [pz, pn, sz, sc]
    refine rl 4 rfl ?_ (ylC tc3); simp only [pz, pn, sz, sc]
    refine rl 6 rfl ?_ (ylC tc3); simp only [pz, pn, sz, sc]
    refine rl 8 rfl ?_ (by first | exact ylM ta24 (hc := hpa) | exact ylM ta24 (hc := hpb) | exact ylA ta24 | exact ylM ta24); simp only [pz, pn, sz, sc]
    refine rl 10 rfl ?_ (by first | exact ylM ta24 (hc := hpa) | exact ylM ta24 (hc := hpb) | exact ylA ta24 | exact ylM ta24); simp only [pz, pn, sz, sc]
    refine r2 0 16 ?_ ?_
    (refine kN (o := ⟨some 13, _, _, _, _, _⟩) gf8 hst (fun w hst => hnew w) rfl rfl rfl rfl ?_; clear hst; intro v13 L w hn13 hR13 hst; obtain ⟨bs, br, hsr, rfl, hS⟩ := hR13; (try simp only [List.cons_append, List.nil_append, List.append_nil, List.append_assoc] at hst); obtain ⟨hbs, hbr⟩ := new_ne hn13 hS hF'.out; have hbs0 : w0.heap.size ≤ bs := hn13.1 (bs, _) (by rw [hS]; exact List.Mem.head _); have hbr0 : w0.heap.size ≤ br := hn13.1 (br, _) (by rw [hS]; exact List.Mem.tail _ (List.Mem.head _))); (try simp only [pz, pn, sz, sc]); refine re ?_
    refine r2 11 16 ?_ ?_
    (refine kg gf19 hst (fun w hst => hfin bs w (hk.out w hst.keeps)) rfl rfl rfl rfl ?_; clear hst; intro w hst); (try simp only [pz, pn, sz, sc]); refine re ?_
    refine r0 12 ?_; simp only [pz, pn, sz, sc]
    refine r0 13 ?_; simp only [pz, pn, sz, sc]
    refine r0 14 ?_; simp only [pz, pn, sz, sc]
    refine r0 15 ?_; simp only [pz, pn, sz, sc]
    refine r1 16 ?_; (refine ka 3 hst tz24 rfl rfl ?_; clear hst; intro b3 w hb3 hst); (try simp only [pz, pn, sz, sc]); refine re ?_
    refine r1 17 ?_; (refine kt hst ta24 rfl rfl ?_; clear hst; intro w hst); (try simp only [pz, pn, sz, sc]); refine re ?_
    refine r0 18 ?_; simp only [pz, pn, sz, sc]
    refine r0 19 ?_; simp only [pz, pn, sz, sc]
    refine rd_ ?_
    rotate_left 1
    (refine ka 3 hst tz24 rfl rfl ?_; clear hst; intro b3 w hb3 hst); (try simp only [pz, pn, sz, sc]); refine re ?_
    refine r1 11 ?_; (refine kg gf19 hst (fun w hst => hfin bs w (hk.out w hst.keeps)) rfl rfl rfl rfl ?_; clear hst; intro w hst); (try simp only [pz, pn, sz, sc]); refine re ?_
    refine r0 12 ?_; simp only [pz, pn, sz, sc]
    refine r0 13 ?_; simp only [pz, pn, sz, sc]
    refine r0 14 ?_; simp only [pz, pn, sz, sc]
    refine r0 15 ?_; simp only [pz, pn, sz, sc]
    refine r1 17 ?_; (refine kt hst ta24 rfl rfl ?_; clear hst; intro w hst); (try simp only [pz, pn, sz, sc]); refine re ?_
    refine r0 18 ?_; simp only [pz, pn, sz, sc]
    refine r0 19 ?_; simp only [pz, pn, sz, sc]
    refine rd_ ?_
    rotate_right 1
    rotate_left 2
    (refine ka 3 hst tz24 rfl rfl ?_; clear hst; intro b3 w hb3 hst); (try simp only [pz, pn, sz, sc]); refine re ?_
    refine r1 0 ?_; (refine kN (o := ⟨some 13, _, _, _, _, _⟩) gf8 hst (fun w hst => hnew w) rfl rfl rfl rfl ?_; clear hst; intro v13 L w hn13 hR13 hst; obtain ⟨bs, br, hsr, rfl, hS⟩ := hR13; (try simp only [List.cons_append, List.nil_append, List.append_nil, List.append_assoc] at hst); obtain ⟨hbs, hbr⟩ := new_ne hn13 hS hF'.out; have hbs0 : w0.heap.size ≤ bs := hn13.1 (bs, _) (by rw [hS]; exact List.Mem.head _); have hbr0 : w0.heap.size ≤ br := hn13.1 (br, _) (by rw [hS]; exact List.Mem.tail _ (List.Mem.head _))); (try simp only [pz, pn, sz, sc]); refine re ?_
    refine r1 11 ?_; (refine kg gf19 hst (fun w hst => hfin bs w (hk.out w hst.keeps)) rfl rfl rfl rfl ?_; clear hst; intro w hst); (try simp only [pz, pn, sz, sc]); refine re ?_
    refine r0 12 ?_; simp only [pz, pn, sz, sc]
    refine r0 13 ?_; simp only [pz, pn, sz, sc]
    refine r0 14 ?_; simp only [pz, pn, sz, sc]
    refine r0 15 ?_; simp only [pz, pn, sz, sc]
    refine r1 17 ?_; (refine kt hst ta24 rfl rfl ?_; clear hst; intro w hst); (try simp only [pz, pn, sz, sc]); refine re ?_
    refine r0 18 ?_; simp only [pz, pn, sz, sc]
    refine r0 19 ?_; simp only [pz, pn, sz, sc]
    refine rd_ ?_
    rotate_right 2
    all_goals
      go_wp2_with fail
      go_meet
      exact ⟨b3, rfl, rfl, rfl, hb3, hst.sub (by repeat (first | exact List.Sublist.refl _ | exact List.nil_sublist _ | refine List.Sublist.cons_cons _ ?_ | refine List.Sublist.cons _ ?_))⟩
  case rest =>
    obtain ⟨b3, rfl, rfl, rfl, hb3, hst⟩ := hcut
    rename World => wx0
    rcases hq with hq | ⟨hq, hq2⟩
    all_goals
      go_wp2_with ((first | (go_big_skip) | (refine kg gf9 hst (fun w hst => haw w (hk.out w hst.keeps)) rfl rfl rfl rfl ?_; clear hst; intro w hst) | (refine wl_guard (by rfl) ?_) | (refine kc hst tc3 rfl ?_) | (refine kl hst ta24 rfl ?_) | (refine keS tf24 tc22 rfl ?_)); try simp only [pz, pn, sz, sc])
      refine bp_t rfl rfl (by rfl) ⟨?_, hst.keeps⟩
      rfl

end Go.Proofs.YtefpoconpeggpaaGreatDoor.Rd
