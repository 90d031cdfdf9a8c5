/- RootHypots, why there is no root. -/
import Derived.Test.YtefpoconpeggpaaGreatDoorJ40
import Derived.Test.YtefpoconpeggpaaGreatDoorJ37
namespace Go.Proofs.YtefpoconpeggpaaGreatDoor.Rd
open Go Go.RowKit
set_option linter.unusedVariables false
set_option linter.unusedSimpArgs false
set_option maxRecDepth 100000

/-- How far the numbers are apart, as the law reckons it. -/
theorem far_eq (f a b : Nat) (ha : wSig f a < 2 ^ fP f) (hb : wSig f b < 2 ^ fP f) : wExp f a + (bl (wSig f a) : Int) - wExp f b - (bl (wSig f b) : Int) = uExp f a - uExp f b := by
  have h1 : bl (wSig f a) ≤ fP f := bl_le.2 ha
  have h2 : bl (wSig f b) ≤ fP f := bl_le.2 hb
  unfold uExp uUp
  omega

set_option maxHeartbeats 16000000 in
theorem law_RootHypots_B (k f m : Int) (a b : Nat) (ha : a < M2) (hb : b < M2) (w0 : World) (hF : FmtIn w0) (hkk : ¬ (k < 1 ∨ 4 < k))
    (hno : (m < 1 ∨ 5 < m) ∨ sB f a = false ∨ sB f b = false ∨ ∃ fn : Nat, f = fn ∧ (fn = 4 ∨ ¬ (uExp fn a - uExp fn b ≤ 40 ∧ -40 ≤ uExp fn a - uExp fn b))) : GivesAt Tryz.prog 5 #[.agg (caseC k f m a b)] (.bool true) w0 := by
  have hst := St.start [] w0
  have hk := Lib.hid (fun w (k : Keeps [] w0 w) => hF.keep k (by simp))
  have hkn := hF.lt
  have hF' := Lib.hid hF
  have hnew := fun w => engine_New w
  have haw := fun w h => law25_awake w h
  have hW0 := Lib.hid Wd_zero
  have h0M : (0 : Nat) < M2 := by decide
  have z0 : decide ((0 : Nat) = 0) = true := rfl
  have y1 := caseC_size k f m a b
  have y2 := caseC_one k f m a b
  obtain ⟨g0, g1, g2⟩ := caseC_at k f m a b
  have hpa := caseC_a k f m a b
  have hpb := caseC_b k f m a b
  obtain ⟨kn, rfl, k1, k4⟩ : ∃ kn : Nat, k = kn ∧ 1 ≤ kn ∧ kn ≤ 4 := ⟨k.toNat, by omega, by omega, by omega⟩
  have hq1 : decide ((kn : Int) < 1) = false := decide_eq_false (by omega)
  have hq2 : decide ((4 : Int) < (kn : Int)) = false := decide_eq_false (by omega)
  have hsa := ref25_SomeI f a ha
  have hsb := ref25_SomeI f b hb
  obtain ⟨ok, ex, sg, hsM, hA, hbad⟩ : ∃ ok ex sg, sg < M ∧ HA f a b ok (nbC false ex sg) ∧ ((m < 1 ∨ 5 < m) ∨ ok = false ∨ sg = 0) := by
    rcases hno with h | h
    · obtain ⟨ok, ex, sg, hsM, hA⟩ := HA_any f a b ha hb
      exact ⟨ok, ex, sg, hsM, hA, .inl h⟩
    · obtain ⟨ok, ex, sg, hsM, hA, hb⟩ := HA_none f a b ha hb h
      exact ⟨ok, ex, sg, hsM, hA, .inr hb⟩
  have hfin := Lib.hid (fun bs br L (hS : SetNew bs br L) (h1 : bs ≠ 0) (h2 : br ≠ 0) w hw ho => root_Hypot_arg bs br h1 romN (fun _ => 0) L (.inl ⟨hS, rfl, rfl⟩) kn k1 k4 f m a b ok ex sg hsM hA hbad w hw ho)
  have hcase : (m < 1 ∨ 5 < m) ∨ ((1 ≤ m ∧ m ≤ 5) ∧ sB f a = false) ∨ ((1 ≤ m ∧ m ≤ 5) ∧ sB f a = true ∧ sB f b = false) ∨ ((1 ≤ m ∧ m ≤ 5) ∧ sB f a = true ∧ sB f b = true ∧ f = 4) ∨
      ((1 ≤ m ∧ m ≤ 5) ∧ sB f a = true ∧ sB f b = true ∧ f ≠ 4 ∧ ∃ fn : Nat, f = fn ∧ ¬ (uExp fn a - uExp fn b ≤ 40 ∧ -40 ≤ uExp fn a - uExp fn b)) := by
    by_cases hm : 1 ≤ m ∧ m ≤ 5
    · cases h1 : sB f a
      · simp [hm]
      · cases h2 : sB f b
        · simp [hm]
        · rw [h1, h2] at hno
          obtain ⟨fn, rfl, hfn⟩ : ∃ fn : Nat, f = fn ∧ (fn = 4 ∨ ¬ (uExp fn a - uExp fn b ≤ 40 ∧ -40 ≤ uExp fn a - uExp fn b)) := by
            rcases hno with h | h | h | h
            · omega
            · cases h
            · cases h
            · exact h
          by_cases h4 : fn = 4
          · subst h4; simp [hm]
          · exact .inr (.inr (.inr (.inr ⟨hm, rfl, rfl, by omega, fn, rfl, by omega⟩)))
    · exact .inl (by omega)
  have hc' := Lib.hid hcase
  have ha' := Lib.hid ha
  have hb' := Lib.hid hb
  clear hF hA hbad ha hb hsM hno hcase
  generalize caseC kn f m a b = cs at *
  go_enter Tryz.func5, Tryz.ntmps5
  go_wp2_with ((first | (refine kb 1 hst rfl rfl ?_; clear hst; intro b1 w hb1 hst)); try simp only [pz, pn, sz, sc])
  go_cut [3, 4, 5] (fun s3 s4 s5 wx => ∃ b3, s3 = .pointer (some ⟨b3, 0, none⟩) ∧ s4 = .int .i64 0 ∧ s5 = .int .i64 1 ∧ w0.heap.size ≤ b3 ∧ St w0 [] [(b3, .cells (wdc 0) 24), (b1, .cells cs 26)] wx)
  case first =>
    refine wp_region_T 17  hst (by kernel_rfl) ?_; clear hst; intro w hst; (try simp only [List.length_cons, List.length_nil, Nat.reduceAdd, Array.replicate_succ, Array.replicate_zero, List.push_toArray, List.nil_append, List.cons_append])
    refine r0 1 ?_; simp only [pz, pn, sz, sc]
    refine r0 3 ?_; simp only [pz, pn, sz, sc]
    refine r0 5 ?_; simp only [pz, pn, sz, sc]
    refine r0 7 ?_; simp only [pz, pn, sz, sc]
    refine r0 9 ?_; simp only [pz, pn, sz, sc]
    refine rl 2 rfl ?_ (ylC tc3); simp only [pz, pn, sz, sc]
    refine rl 4 rfl ?_ (ylC tc3); simp only [pz, pn, sz, sc]
    refine rl 6 rfl ?_ (ylC tc3); simp only [pz, pn, sz, sc]
    refine rl 8 rfl ?_ (by first | exact ylM ta24 (hc := hpa) | exact ylM ta24 (hc := hpb) | exact ylA ta24 | exact ylM ta24); simp only [pz, pn, sz, sc]
    refine rl 10 rfl ?_ (by first | exact ylM ta24 (hc := hpa) | exact ylM ta24 (hc := hpb) | exact ylA ta24 | exact ylM ta24); simp only [pz, pn, sz, sc]
    refine r2 0 16 ?_ ?_
    (refine kN (o := ⟨some 13, _, _, _, _, _⟩) gf8 hst (fun w hst => hnew w) rfl rfl rfl rfl ?_; clear hst; intro v13 L w hn13 hR13 hst; obtain ⟨bs, br, hsr, rfl, hS⟩ := hR13; (try simp only [List.cons_append, List.nil_append, List.append_nil, List.append_assoc] at hst); obtain ⟨hbs, hbr⟩ := new_ne hn13 hS hF'.out; have hbs0 : w0.heap.size ≤ bs := hn13.1 (bs, _) (by rw [hS]; exact List.Mem.head _); have hbr0 : w0.heap.size ≤ br := hn13.1 (br, _) (by rw [hS]; exact List.Mem.tail _ (List.Mem.head _))); (try simp only [pz, pn, sz, sc]); refine re ?_
    refine r2 11 16 ?_ ?_
    (refine kZ (o := ⟨some 24, _, _, _, _, _⟩) (fun L' => (b1, .cells cs 26) :: L') gf19 hst (fun w hst => hfin.out bs br L hS hbs hbr w (hk.out w hst.keeps) (hst.owns (L := L) (.there .here))) rfl rfl rfl rfl ?_ (ht := fun _ => (.there .here)); clear hst; intro v24 L24 w hR24 hnew24 hst; obtain ⟨rfl, hS1⟩ := hR24); (try simp only [pz, pn, sz, sc]); refine re ?_
    refine r0 12 ?_; simp only [pz, pn, sz, sc]
    refine r0 13 ?_; simp only [pz, pn, sz, sc]
    refine r0 14 ?_; simp only [pz, pn, sz, sc]
    refine r0 15 ?_; simp only [pz, pn, sz, sc]
    refine r1 16 ?_; (refine ka 3 hst tz24 rfl rfl ?_; clear hst; intro b3 w hb3 hst); (try simp only [pz, pn, sz, sc]); refine re ?_
    refine r1 17 ?_; (refine kt hst ta24 rfl rfl ?_; clear hst; intro w hst); (try simp only [pz, pn, sz, sc]); refine re ?_
    refine r0 18 ?_; simp only [pz, pn, sz, sc]
    refine r0 19 ?_; simp only [pz, pn, sz, sc]
    refine rd_ ?_
    rotate_left 1
    (refine ka 3 hst tz24 rfl rfl ?_; clear hst; intro b3 w hb3 hst); (try simp only [pz, pn, sz, sc]); refine re ?_
    refine r1 11 ?_; (refine kZ (o := ⟨some 24, _, _, _, _, _⟩) (fun L' => (b3, .cells (wc 2 0) 24) :: (b1, .cells cs 26) :: L') gf19 hst (fun w hst => hfin.out bs br L hS hbs hbr w (hk.out w hst.keeps) (hst.owns (L := L) (.there (.there .here)))) rfl rfl rfl rfl ?_ (ht := fun _ => (.there (.there .here))); clear hst; intro v24 L24 w hR24 hnew24 hst; obtain ⟨rfl, hS1⟩ := hR24); (try simp only [pz, pn, sz, sc]); refine re ?_
    refine r0 12 ?_; simp only [pz, pn, sz, sc]
    refine r0 13 ?_; simp only [pz, pn, sz, sc]
    refine r0 14 ?_; simp only [pz, pn, sz, sc]
    refine r0 15 ?_; simp only [pz, pn, sz, sc]
    refine r1 17 ?_; (refine kt hst ta24 rfl rfl ?_; clear hst; intro w hst); (try simp only [pz, pn, sz, sc]); refine re ?_
    refine r0 18 ?_; simp only [pz, pn, sz, sc]
    refine r0 19 ?_; simp only [pz, pn, sz, sc]
    refine rd_ ?_
    rotate_right 1
    rotate_left 2
    (refine ka 3 hst tz24 rfl rfl ?_; clear hst; intro b3 w hb3 hst); (try simp only [pz, pn, sz, sc]); refine re ?_
    refine r1 0 ?_; (refine kN (o := ⟨some 13, _, _, _, _, _⟩) gf8 hst (fun w hst => hnew w) rfl rfl rfl rfl ?_; clear hst; intro v13 L w hn13 hR13 hst; obtain ⟨bs, br, hsr, rfl, hS⟩ := hR13; (try simp only [List.cons_append, List.nil_append, List.append_nil, List.append_assoc] at hst); obtain ⟨hbs, hbr⟩ := new_ne hn13 hS hF'.out; have hbs0 : w0.heap.size ≤ bs := hn13.1 (bs, _) (by rw [hS]; exact List.Mem.head _); have hbr0 : w0.heap.size ≤ br := hn13.1 (br, _) (by rw [hS]; exact List.Mem.tail _ (List.Mem.head _))); (try simp only [pz, pn, sz, sc]); refine re ?_
    refine r1 11 ?_; (refine kZ (o := ⟨some 24, _, _, _, _, _⟩) (fun L' => (b3, .cells (wc 2 0) 24) :: (b1, .cells cs 26) :: L') gf19 hst (fun w hst => hfin.out bs br L hS hbs hbr w (hk.out w hst.keeps) (hst.owns (L := L) (.there (.there .here)))) rfl rfl rfl rfl ?_ (ht := fun _ => (.there (.there .here))); clear hst; intro v24 L24 w hR24 hnew24 hst; obtain ⟨rfl, hS1⟩ := hR24); (try simp only [pz, pn, sz, sc]); refine re ?_
    refine r0 12 ?_; simp only [pz, pn, sz, sc]
    refine r0 13 ?_; simp only [pz, pn, sz, sc]
    refine r0 14 ?_; simp only [pz, pn, sz, sc]
    refine r0 15 ?_; simp only [pz, pn, sz, sc]
    refine r1 17 ?_; (refine kt hst ta24 rfl rfl ?_; clear hst; intro w hst); (try simp only [pz, pn, sz, sc]); refine re ?_
    refine r0 18 ?_; simp only [pz, pn, sz, sc]
    refine r0 19 ?_; simp only [pz, pn, sz, sc]
    refine rd_ ?_
    rotate_right 2
    all_goals
      go_wp2_with fail
      go_meet
      exact ⟨b3, rfl, rfl, rfl, hb3, hst.sub (by repeat (first | exact List.Sublist.refl _ | exact List.nil_sublist _ | refine List.Sublist.cons_cons _ ?_ | refine List.Sublist.cons _ ?_))⟩
  case rest =>
    obtain ⟨b3, rfl, rfl, rfl, hb3, hst⟩ := hcut
    rename World => wx0
    rcases hc'.out with hm | ⟨hm, hs⟩ | ⟨hm, hs, hs2⟩ | ⟨hm, hs, hs2, rfl⟩ | ⟨hm, hs, hs2, hf4, fn, rfl, hfar⟩
    · have his := ref08_Is_no m hm
      clear hsa hsb hc' hm
      go_wp2_with ((first | (go_big_skip) | (refine kg gf9 hst (fun w hst => haw w (hk.out w hst.keeps)) rfl rfl rfl rfl ?_; clear hst; intro w hst) | (refine kf gf10 hst (his) rfl rfl rfl rfl ?_; clear hst; intro w hst) | (refine wl_guard (by rfl) ?_) | (refine kc hst tc3 rfl ?_) | (refine kl hst ta24 rfl ?_) | (refine keS tf24 tc22 rfl ?_)); try simp only [pz, pn, sz, sc])
      refine bp_t rfl rfl (by rfl) ⟨?_, hst.keeps⟩
      rfl
    · have his := ref08_Is_yes m hm.1 hm.2
      rw [hs] at hsa
      clear hsb hc' hm hs
      go_wp2_with ((first | (go_big_skip) | (refine klm hst ta24 rfl ?_ (hc := hpa)) | (refine kg gf9 hst (fun w hst => haw w (hk.out w hst.keeps)) rfl rfl rfl rfl ?_; clear hst; intro w hst) | (refine kf gf10 hst (his) rfl rfl rfl rfl ?_; clear hst; intro w hst) | (refine kf gf11 hst (hsa) rfl rfl rfl rfl ?_; clear hst; intro w hst) | (refine wl_guard (by rfl) ?_) | (refine kc hst tc3 rfl ?_) | (refine kl hst ta24 rfl ?_) | (refine keS tf24 tc22 rfl ?_)); try simp only [pz, pn, sz, sc])
      refine bp_t rfl rfl (by rfl) ⟨?_, hst.keeps⟩
      rfl
    · have his := ref08_Is_yes m hm.1 hm.2
      rw [hs] at hsa
      rw [hs2] at hsb
      clear hc' hm hs hs2
      go_wp2_with ((first | (go_big_skip) | (refine klm hst ta24 rfl ?_ (hc := hpa)) | (refine klm hst ta24 rfl ?_ (hc := hpb)) | (refine kg gf9 hst (fun w hst => haw w (hk.out w hst.keeps)) rfl rfl rfl rfl ?_; clear hst; intro w hst) | (refine kf gf10 hst (his) rfl rfl rfl rfl ?_; clear hst; intro w hst) | (refine kf gf11 hst (hsa) rfl rfl rfl rfl ?_; clear hst; intro w hst) | (refine kf gf11 hst (hsb) rfl rfl rfl rfl ?_; clear hst; intro w hst) | (refine wl_guard (by rfl) ?_) | (refine kc hst tc3 rfl ?_) | (refine kl hst ta24 rfl ?_) | (refine keS tf24 tc22 rfl ?_)); try simp only [pz, pn, sz, sc])
      refine bp_t rfl rfl (by rfl) ⟨?_, hst.keeps⟩
      rfl
    · have his := ref08_Is_yes m hm.1 hm.2
      rw [hs] at hsa
      rw [hs2] at hsb
      clear hc' hm hs hs2
      go_wp2_with ((first | (refine klm hst ta24 rfl ?_ (hc := hpa)) | (refine klm hst ta24 rfl ?_ (hc := hpb)) | (refine kg gf9 hst (fun w hst => haw w (hk.out w hst.keeps)) rfl rfl rfl rfl ?_; clear hst; intro w hst) | (refine kf gf10 hst (his) rfl rfl rfl rfl ?_; clear hst; intro w hst) | (refine kf gf11 hst (hsa) rfl rfl rfl rfl ?_; clear hst; intro w hst) | (refine kf gf11 hst (hsb) rfl rfl rfl rfl ?_; clear hst; intro w hst) | (refine wl_guard (by rfl) ?_) | (refine kc hst tc3 rfl ?_) | (refine kl hst ta24 rfl ?_) | (refine keS tf24 tc22 rfl ?_)); try simp only [pz, pn, sz, sc])
      refine bp_t rfl rfl (by rfl) ⟨?_, hst.keeps⟩
      rfl
    · have his := ref08_Is_yes m hm.1 hm.2
      rw [hs] at hsa
      rw [hs2] at hsb
      have hff : ((fn : Int) != 4) = true := by rw [bne_iff_ne]; exact hf4
      obtain ⟨f', e', f1, f4, hA1⟩ := sB_yes hs
      obtain rfl : fn = f' := by omega
      rw [sB_nat f1 f4] at hs2
      obtain ⟨a1, a2, a3, a4⟩ := someB_spec hA1
      obtain ⟨c1, c2, c3, c4⟩ := someB_spec hs2
      have hpin := fP_in fn
      have hfr := far_eq fn a b (wSig_lt fn a) (wSig_lt fn b)
      have va := ref07_Value fn f1 f4 a ha'.out a1
      have vb := ref07_Value fn f1 f4 b hb'.out c1
      have xa := wExp_in fn a
      have xb := wExp_in fn b
      have sa : wSig fn a < M := Nat.lt_trans (wSig_lt fn a) (small_M2 _ (by omega))
      have sb : wSig fn b < M := Nat.lt_trans (wSig_lt fn b) (small_M2 _ (by omega))
      have bga := fun w => ref02_Big (wSig fn a) sa w
      have bgb := fun w => ref02_Big (wSig fn b) sb w
      have lga := fun v w h => ref01_Len v (dl (wSig fn a)) (wSig fn a) w h
      have lgb := fun v w h => ref01_Len v (dl (wSig fn b)) (wSig fn b) w h
      have ka : (bl (wSig fn a) : Int) ≤ 200 := by have := (wSig_dl fn a).2; omega
      have kb' : (bl (wSig fn b) : Int) ≤ 200 := by have := (wSig_dl fn b).2; omega
      have ka0 : (0 : Int) ≤ (bl (wSig fn a) : Int) := by omega
      have kb0 : (0 : Int) ≤ (bl (wSig fn b) : Int) := by omega
      have W1 : IntKind.i64.wrap (wExp fn a + (bl (wSig fn a) : Int)) = wExp fn a + (bl (wSig fn a) : Int) := by rw [IntKind.wrap_i64]; omega
      have W2 : IntKind.i64.wrap (wExp fn a + (bl (wSig fn a) : Int) - wExp fn b) = wExp fn a + (bl (wSig fn a) : Int) - wExp fn b := by rw [IntKind.wrap_i64]; omega
      have W3 : IntKind.i64.wrap (wExp fn a + (bl (wSig fn a) : Int) - wExp fn b - (bl (wSig fn b) : Int)) = wExp fn a + (bl (wSig fn a) : Int) - wExp fn b - (bl (wSig fn b) : Int) := by rw [IntKind.wrap_i64]; omega
      have hfar' : decide ((-40 : Int) ≤ wExp fn a + (bl (wSig fn a) : Int) - wExp fn b - (bl (wSig fn b) : Int)) = false ∨ (decide ((-40 : Int) ≤ wExp fn a + (bl (wSig fn a) : Int) - wExp fn b - (bl (wSig fn b) : Int)) = true ∧ decide (wExp fn a + (bl (wSig fn a) : Int) - wExp fn b - (bl (wSig fn b) : Int) ≤ 40) = false) := by
        rw [hfr]
        by_cases h : -40 ≤ uExp fn a - uExp fn b
        · exact .inr ⟨decide_eq_true h, decide_eq_false (by omega)⟩
        · exact .inl (decide_eq_false h)
      clear hc' hm hs hs2 hfar hfr ka ka0 kb0 kb' xa xb f1 f4 hA1 a1 a2 a3 a4 c1 c2 c3 c4 hpin ha' hb' e' sa sb hf4
      unfold nbC at va vb
      have ya := nbC_one (wNeg fn a) (wExp fn a) (wSig fn a)
      have yb := nbC_one (wNeg fn b) (wExp fn b) (wSig fn b)
      unfold nbC at ya yb
      generalize wSig fn a = sga at *
      generalize wSig fn b = sgb at *
      generalize wExp fn a = exa at *
      generalize wExp fn b = exb at *
      generalize wNeg fn a = nga at *
      generalize wNeg fn b = ngb at *
      generalize (bl sga : Int) = kA at *
      generalize (bl sgb : Int) = kB at *
      go_wp2_with ((first | (refine klm hst ta24 rfl ?_ (hc := hpa)) | (refine klm hst ta24 rfl ?_ (hc := hpb)) | (refine kf gf10 hst (his) rfl rfl rfl rfl ?_; clear hst; intro w hst) | (refine kf gf11 hst (hsa) rfl rfl rfl rfl ?_; clear hst; intro w hst) | (refine kf gf11 hst (hsb) rfl rfl rfl rfl ?_; clear hst; intro w hst) | (refine wl_guard (by rfl) ?_) | (refine kc hst tc3 rfl ?_)); try simp only [pz, pn, sz, sc])
      go_cut [7, 8] (fun s7 s8 wx => ∃ b7 b8, s7 = .pointer (some ⟨b7, 0, none⟩) ∧ s8 = .pointer (some ⟨b8, 0, none⟩) ∧ w0.heap.size ≤ b7 ∧ w0.heap.size ≤ b8 ∧ St w0 [] [(b8, .cells (#[Value.bool ngb, .int .i64 exb] ++ wc 8 sgb) 46), (b7, .cells (#[Value.bool nga, .int .i64 exa] ++ wc 8 sga) 46), (b3, .cells (wdc 0) 24), (b1, .cells cs 26)] wx)
      case first =>
        refine wp_region_TV 14 [(b1, .cells cs 26)] hst (by kernel_rfl) ?_; clear hst; intro w hst; (try simp only [List.length_cons, List.length_nil, Nat.reduceAdd, Array.replicate_succ, Array.replicate_zero, List.push_toArray, List.nil_append, List.cons_append])
        refine r0 0 ?_; simp only [pz, pn, sz, sc]
        refine r0 2 ?_; simp only [pz, pn, sz, sc]
        refine r0 5 ?_; simp only [pz, pn, sz, sc]
        refine r0 7 ?_; simp only [pz, pn, sz, sc]
        refine rl 1 rfl ?_ (ylC tc3); simp only [pz, pn, sz, sc]
        refine rl 3 rfl ?_ (by first | exact ylM ta24 (hc := hpa) | exact ylM ta24 (hc := hpb) | exact ylA ta24 | exact ylM ta24); simp only [pz, pn, sz, sc]
        refine rl 6 rfl ?_ (ylC tc3); simp only [pz, pn, sz, sc]
        refine rl 8 rfl ?_ (by first | exact ylM ta24 (hc := hpa) | exact ylM ta24 (hc := hpb) | exact ylA ta24 | exact ylM ta24); simp only [pz, pn, sz, sc]
        refine r3 4 10 11 ?_ ?_ ?_
        (refine kf gf14 hst (va) rfl rfl rfl rfl ?_; clear hst; intro w hst); (try simp only [pz, pn, sz, sc]); refine re ?_
        refine r3 9 10 11 ?_ ?_ ?_
        (refine kf gf14 hst (vb) rfl rfl rfl rfl ?_; clear hst; intro w hst); (try simp only [pz, pn, sz, sc]); refine re ?_
        refine r2 10 11 ?_ ?_
        (refine ka 7 hst tz46 rfl rfl ?_; clear hst; intro b7 w hb7 hst); (try simp only [pz, pn, sz, sc]); refine re ?_
        refine r1 11 ?_; (refine ka 8 hst tz46 rfl rfl ?_; clear hst; intro b8 w hb8 hst); (try simp only [pz, pn, sz, sc]); refine re ?_
        refine r1 12 ?_; (refine kt hst ta46 rfl rfl ?_; clear hst; intro w hst); (try simp only [pz, pn, sz, sc]); refine re ?_
        refine r1 13 ?_; (refine kt hst ta46 rfl rfl ?_; clear hst; intro w hst); (try simp only [pz, pn, sz, sc]); refine re ?_
        refine rd_ ?_
        rotate_left 1
        (refine ka 8 hst tz46 rfl rfl ?_; clear hst; intro b8 w hb8 hst); (try simp only [pz, pn, sz, sc]); refine re ?_
        refine r1 10 ?_; (refine ka 7 hst tz46 rfl rfl ?_; clear hst; intro b7 w hb7 hst); (try simp only [pz, pn, sz, sc]); refine re ?_
        refine r1 12 ?_; (refine kt hst ta46 rfl rfl ?_; clear hst; intro w hst); (try simp only [pz, pn, sz, sc]); refine re ?_
        refine r1 13 ?_; (refine kt hst ta46 rfl rfl ?_; clear hst; intro w hst); (try simp only [pz, pn, sz, sc]); refine re ?_
        refine rd_ ?_
        rotate_right 1
        rotate_left 2
        (refine ka 7 hst tz46 rfl rfl ?_; clear hst; intro b7 w hb7 hst); (try simp only [pz, pn, sz, sc]); refine re ?_
        refine r2 9 11 ?_ ?_
        (refine kf gf14 hst (vb) rfl rfl rfl rfl ?_; clear hst; intro w hst); (try simp only [pz, pn, sz, sc]); refine re ?_
        refine r1 11 ?_; (refine ka 8 hst tz46 rfl rfl ?_; clear hst; intro b8 w hb8 hst); (try simp only [pz, pn, sz, sc]); refine re ?_
        refine r1 12 ?_; (refine kt hst ta46 rfl rfl ?_; clear hst; intro w hst); (try simp only [pz, pn, sz, sc]); refine re ?_
        refine r1 13 ?_; (refine kt hst ta46 rfl rfl ?_; clear hst; intro w hst); (try simp only [pz, pn, sz, sc]); refine re ?_
        refine rd_ ?_
        rotate_left 1
        (refine ka 8 hst tz46 rfl rfl ?_; clear hst; intro b8 w hb8 hst); (try simp only [pz, pn, sz, sc]); refine re ?_
        refine r1 9 ?_; (refine kf gf14 hst (vb) rfl rfl rfl rfl ?_; clear hst; intro w hst); (try simp only [pz, pn, sz, sc]); refine re ?_
        refine r1 12 ?_; (refine kt hst ta46 rfl rfl ?_; clear hst; intro w hst); (try simp only [pz, pn, sz, sc]); refine re ?_
        refine r1 13 ?_; (refine kt hst ta46 rfl rfl ?_; clear hst; intro w hst); (try simp only [pz, pn, sz, sc]); refine re ?_
        refine rd_ ?_
        rotate_right 1
        rotate_left 2
        (refine ka 8 hst tz46 rfl rfl ?_; clear hst; intro b8 w hb8 hst); (try simp only [pz, pn, sz, sc]); refine re ?_
        refine r2 9 10 ?_ ?_
        (refine kf gf14 hst (vb) rfl rfl rfl rfl ?_; clear hst; intro w hst); (try simp only [pz, pn, sz, sc]); refine re ?_
        refine r1 10 ?_; (refine ka 7 hst tz46 rfl rfl ?_; clear hst; intro b7 w hb7 hst); (try simp only [pz, pn, sz, sc]); refine re ?_
        refine r1 12 ?_; (refine kt hst ta46 rfl rfl ?_; clear hst; intro w hst); (try simp only [pz, pn, sz, sc]); refine re ?_
        refine r1 13 ?_; (refine kt hst ta46 rfl rfl ?_; clear hst; intro w hst); (try simp only [pz, pn, sz, sc]); refine re ?_
        refine rd_ ?_
        rotate_left 1
        (refine ka 7 hst tz46 rfl rfl ?_; clear hst; intro b7 w hb7 hst); (try simp only [pz, pn, sz, sc]); refine re ?_
        refine r1 9 ?_; (refine kf gf14 hst (vb) rfl rfl rfl rfl ?_; clear hst; intro w hst); (try simp only [pz, pn, sz, sc]); refine re ?_
        refine r1 12 ?_; (refine kt hst ta46 rfl rfl ?_; clear hst; intro w hst); (try simp only [pz, pn, sz, sc]); refine re ?_
        refine r1 13 ?_; (refine kt hst ta46 rfl rfl ?_; clear hst; intro w hst); (try simp only [pz, pn, sz, sc]); refine re ?_
        refine rd_ ?_
        rotate_right 1
        rotate_right 4
        rotate_left 6
        (refine ka 7 hst tz46 rfl rfl ?_; clear hst; intro b7 w hb7 hst); (try simp only [pz, pn, sz, sc]); refine re ?_
        refine r2 4 11 ?_ ?_
        (refine kf gf14 hst (va) rfl rfl rfl rfl ?_; clear hst; intro w hst); (try simp only [pz, pn, sz, sc]); refine re ?_
        refine r2 9 11 ?_ ?_
        (refine kf gf14 hst (vb) rfl rfl rfl rfl ?_; clear hst; intro w hst); (try simp only [pz, pn, sz, sc]); refine re ?_
        refine r1 11 ?_; (refine ka 8 hst tz46 rfl rfl ?_; clear hst; intro b8 w hb8 hst); (try simp only [pz, pn, sz, sc]); refine re ?_
        refine r1 12 ?_; (refine kt hst ta46 rfl rfl ?_; clear hst; intro w hst); (try simp only [pz, pn, sz, sc]); refine re ?_
        refine r1 13 ?_; (refine kt hst ta46 rfl rfl ?_; clear hst; intro w hst); (try simp only [pz, pn, sz, sc]); refine re ?_
        refine rd_ ?_
        rotate_left 1
        (refine ka 8 hst tz46 rfl rfl ?_; clear hst; intro b8 w hb8 hst); (try simp only [pz, pn, sz, sc]); refine re ?_
        refine r1 9 ?_; (refine kf gf14 hst (vb) rfl rfl rfl rfl ?_; clear hst; intro w hst); (try simp only [pz, pn, sz, sc]); refine re ?_
        refine r1 12 ?_; (refine kt hst ta46 rfl rfl ?_; clear hst; intro w hst); (try simp only [pz, pn, sz, sc]); refine re ?_
        refine r1 13 ?_; (refine kt hst ta46 rfl rfl ?_; clear hst; intro w hst); (try simp only [pz, pn, sz, sc]); refine re ?_
        refine rd_ ?_
        rotate_right 1
        rotate_left 2
        (refine ka 8 hst tz46 rfl rfl ?_; clear hst; intro b8 w hb8 hst); (try simp only [pz, pn, sz, sc]); refine re ?_
        refine r1 4 ?_; (refine kf gf14 hst (va) rfl rfl rfl rfl ?_; clear hst; intro w hst); (try simp only [pz, pn, sz, sc]); refine re ?_
        refine r1 9 ?_; (refine kf gf14 hst (vb) rfl rfl rfl rfl ?_; clear hst; intro w hst); (try simp only [pz, pn, sz, sc]); refine re ?_
        refine r1 12 ?_; (refine kt hst ta46 rfl rfl ?_; clear hst; intro w hst); (try simp only [pz, pn, sz, sc]); refine re ?_
        refine r1 13 ?_; (refine kt hst ta46 rfl rfl ?_; clear hst; intro w hst); (try simp only [pz, pn, sz, sc]); refine re ?_
        refine rd_ ?_
        rotate_right 2
        rotate_left 3
        (refine ka 8 hst tz46 rfl rfl ?_; clear hst; intro b8 w hb8 hst); (try simp only [pz, pn, sz, sc]); refine re ?_
        refine r2 4 10 ?_ ?_
        (refine kf gf14 hst (va) rfl rfl rfl rfl ?_; clear hst; intro w hst); (try simp only [pz, pn, sz, sc]); refine re ?_
        refine r2 9 10 ?_ ?_
        (refine kf gf14 hst (vb) rfl rfl rfl rfl ?_; clear hst; intro w hst); (try simp only [pz, pn, sz, sc]); refine re ?_
        refine r1 10 ?_; (refine ka 7 hst tz46 rfl rfl ?_; clear hst; intro b7 w hb7 hst); (try simp only [pz, pn, sz, sc]); refine re ?_
        refine r1 12 ?_; (refine kt hst ta46 rfl rfl ?_; clear hst; intro w hst); (try simp only [pz, pn, sz, sc]); refine re ?_
        refine r1 13 ?_; (refine kt hst ta46 rfl rfl ?_; clear hst; intro w hst); (try simp only [pz, pn, sz, sc]); refine re ?_
        refine rd_ ?_
        rotate_left 1
        (refine ka 7 hst tz46 rfl rfl ?_; clear hst; intro b7 w hb7 hst); (try simp only [pz, pn, sz, sc]); refine re ?_
        refine r1 9 ?_; (refine kf gf14 hst (vb) rfl rfl rfl rfl ?_; clear hst; intro w hst); (try simp only [pz, pn, sz, sc]); refine re ?_
        refine r1 12 ?_; (refine kt hst ta46 rfl rfl ?_; clear hst; intro w hst); (try simp only [pz, pn, sz, sc]); refine re ?_
        refine r1 13 ?_; (refine kt hst ta46 rfl rfl ?_; clear hst; intro w hst); (try simp only [pz, pn, sz, sc]); refine re ?_
        refine rd_ ?_
        rotate_right 1
        rotate_left 2
        (refine ka 7 hst tz46 rfl rfl ?_; clear hst; intro b7 w hb7 hst); (try simp only [pz, pn, sz, sc]); refine re ?_
        refine r1 4 ?_; (refine kf gf14 hst (va) rfl rfl rfl rfl ?_; clear hst; intro w hst); (try simp only [pz, pn, sz, sc]); refine re ?_
        refine r1 9 ?_; (refine kf gf14 hst (vb) rfl rfl rfl rfl ?_; clear hst; intro w hst); (try simp only [pz, pn, sz, sc]); refine re ?_
        refine r1 12 ?_; (refine kt hst ta46 rfl rfl ?_; clear hst; intro w hst); (try simp only [pz, pn, sz, sc]); refine re ?_
        refine r1 13 ?_; (refine kt hst ta46 rfl rfl ?_; clear hst; intro w hst); (try simp only [pz, pn, sz, sc]); refine re ?_
        refine rd_ ?_
        rotate_right 2
        rotate_right 9
        all_goals
          go_wp2_with fail
          go_meet
          exact ⟨b7, b8, rfl, rfl, hb7, hb8, (((hst.front (b7, _) (by repeat (first | exact Out.head | apply Out.tail))).front (b8, _) (by repeat (first | exact Out.head | apply Out.tail))).sub (by repeat (first | exact List.Sublist.refl _ | exact List.nil_sublist _ | refine List.Sublist.cons_cons _ ?_ | refine List.Sublist.cons _ ?_)))⟩
      case rest =>
        obtain ⟨b7, b8, rfl, rfl, hb7, hb8, hst⟩ := hcut
        rename World => wx1
        go_wp2_with fail
        refine wp_region_T 16  hst (by kernel_rfl) ?_; clear hst; intro w hst; (try simp only [List.length_cons, List.length_nil, Nat.reduceAdd, Array.replicate_succ, Array.replicate_zero, List.push_toArray, List.nil_append, List.cons_append])
        refine r0 0 ?_; simp only [pz, pn, sz, sc, W1, W2, W3]
        refine r0 2 ?_; simp only [pz, pn, sz, sc, W1, W2, W3]
        refine r0 7 ?_; simp only [pz, pn, sz, sc, W1, W2, W3]
        refine r0 10 ?_; simp only [pz, pn, sz, sc, W1, W2, W3]
        refine rl 1 rfl ?_ (ylC tc3); simp only [pz, pn, sz, sc, W1, W2, W3]
        refine rl 3 rfl ?_ (by first | exact ylA ta44 | exact ylM ta44); simp only [pz, pn, sz, sc, W1, W2, W3]
        refine rl 8 rfl ?_ (ylC tc3); simp only [pz, pn, sz, sc, W1, W2, W3]
        refine rl 11 rfl ?_ (by first | exact ylA ta44 | exact ylM ta44); simp only [pz, pn, sz, sc, W1, W2, W3]
        refine r1 4 ?_; (refine wl_callB (o := ⟨some 87, _, _, _, _, _⟩) gf16 hst (fun w hst => bga w) rfl rfl rfl rfl rfl ?_; clear hst; intro v87 Lg87 w hb87 hst; (try simp only [List.cons_append, List.nil_append, List.append_nil, List.append_assoc] at hst)); (try simp only [pz, pn, sz, sc, W1, W2, W3]); refine re ?_
        refine r1 5 ?_; (refine kg gf20 hst (fun w hst => lga _ w (hb87.at hst (fun x h => by simp [h]))) rfl rfl rfl rfl ?_; clear hst; intro w hst); (try simp only [pz, pn, sz, sc, W1, W2, W3]); refine re ?_
        refine r0 6 ?_; simp only [pz, pn, sz, sc, W1, W2, W3]
        refine r0 9 ?_; simp only [pz, pn, sz, sc, W1, W2, W3]
        refine r1 12 ?_; (refine wl_callB (o := ⟨some 95, _, _, _, _, _⟩) gf16 hst (fun w hst => bgb w) rfl rfl rfl rfl rfl ?_; clear hst; intro v95 Lg95 w hb95 hst; (try simp only [List.cons_append, List.nil_append, List.append_nil, List.append_assoc] at hst)); (try simp only [pz, pn, sz, sc, W1, W2, W3]); refine re ?_
        refine r1 13 ?_; (refine kg gf20 hst (fun w hst => lgb _ w (hb95.at hst (fun x h => by simp [h]))) rfl rfl rfl rfl ?_; clear hst; intro w hst); (try simp only [pz, pn, sz, sc, W1, W2, W3]); refine re ?_
        refine r0 14 ?_; simp only [pz, pn, sz, sc, W1, W2, W3]
        refine r0 15 ?_; simp only [pz, pn, sz, sc, W1, W2, W3]
        refine rd_ ?_
        generalize exa + kA - exb - kB = fr at *
        rcases hfar' with hq | ⟨hq, hq'⟩
        all_goals
          go_wp2_with ((first | (refine kg gf9 hst (fun w hst => haw w (hk.out w hst.keeps)) rfl rfl rfl rfl ?_; clear hst; intro w hst) | (refine wl_guard (by rfl) ?_) | (refine kl hst ta24 rfl ?_) | (refine keS tf24 tc22 rfl ?_)); try simp only [pz, pn, sz, sc])
          refine bp_t rfl rfl (by rfl) ⟨?_, hst.keeps⟩
          rfl

end Go.Proofs.YtefpoconpeggpaaGreatDoor.Rd
